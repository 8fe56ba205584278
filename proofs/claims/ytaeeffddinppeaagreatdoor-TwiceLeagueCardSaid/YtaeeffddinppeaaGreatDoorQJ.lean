/- Turning and mixing words, walked. -/
import Derived.Test.YtaeeffddinppeaaGreatDoorG3
import Derived.Laws.StructEq
import Derived.ChangeKeysEq
import Derived.Test.YtaeeffddinppeaaGreatDoorQH
import Derived.Lib.Hide
set_option linter.unusedSimpArgs false
set_option linter.unusedVariables false
namespace Go.Ab
open Go
theorem run_part {P : Program} {w : World} {t : TypeId} {us : List Value} {off : Nat} {v : Value} (ha : isAggB P t = false) (ho : tOk P t = true) (hv : us[off]? = some v) : (part t ⟨us⟩ off).run P w = .ok v w := by
  unfold tOk at ho
  simp only [Bool.and_eq_true] at ho
  obtain ⟨_, hu⟩ := ho
  obtain ⟨d, hd⟩ := Option.isSome_iff_exists.1 hu
  have hg : (isAgg t).run P w = .ok false w := by
    unfold isAggB at ha
    rw [hd] at ha
    unfold isAgg
    rw [Sem.run_bind, run_underlying hd]
    cases d <;> simp at ha <;> rfl
  simp [part, Sem.run_bind, hg, Result.andThen, hv]
theorem cell_eq {P : Program} {w : World} {t : TypeId} {d : Nat} {u v : Value} {r : Bool} (h1 : cellFits P t (.sc u) = true) (h2 : cellFits P t (.sc v) = true) (h : eqV (.sc u) (.sc v) = some r) : (Op.equalIn (d + 1) t u v).run P w = .ok r w := by
  unfold eqV at h
  split at h
  · rename_i k a k' a' e1 e2
    cases e1; cases e2
    split at h
    · rename_i hk
      subst hk
      cases h
      simp only [cellFits] at h1
      obtain ⟨q, hq⟩ := Option.isSome_iff_exists.1 h1
      unfold intK at hq
      split at hq
      · rename_i hu; exact run_equalIn_int w d t k _ a a' hu
      · cases hq
    · cases h
  · rename_i a a' e1 e2
    cases e1; cases e2
    cases h
    simp only [cellFits, strB] at h1
    split at h1
    · rename_i hu
      rw [run_equalIn_string w d t a a' hu, ByteArray.toList_eq, ByteArray.toList_eq]
      congr 1
      rw [Bool.eq_iff_iff]
      simp only [beq_iff_eq, decide_eq_true_eq]
      constructor
      · intro e; exact ByteArray.ext (Array.ext' e)
      · intro e; rw [e]
    · cases h1
  · rename_i a a' e1 e2
    cases e1; cases e2
    cases h
    simp only [cellFits, bolB] at h1
    split at h1
    · rename_i hu; exact run_equalIn_bool' w d t a a' hu
    · cases h1
  · cases h
theorem run_part_arr {P : Program} {w : World} {t e : TypeId} {n : Nat} {i : TypeInfo} {us : List Value} {off : Nat} (hu : P.underlying t = some (.array n e)) (hi : P.info? t = some i) : (part t ⟨us⟩ off).run P w = .ok (.agg ((⟨us⟩ : Array Value).extract off (off + P.cellsOf t))) w := by
  simp [part, isAgg, run_underlying hu, run_sizeOf w hi]
theorem eqL_len : ∀ {xs ys : List AV} {b : Bool}, eqL xs ys = some b → xs.length = ys.length
  | [], [], _, _ => rfl
  | x :: xs, y :: ys, b, h => by
    simp only [eqL] at h
    split at h
    · rename_i hv hl; simp [eqL_len hl]
    · cases h
  | [], _ :: _, _, h => by simp [eqL] at h
  | _ :: _, [], _, h => by simp [eqL] at h
theorem eqL_split : ∀ (n : Nat) {xs ys : List AV} {b : Bool}, eqL xs ys = some b → ∃ p q, eqL (xs.take n) (ys.take n) = some p ∧ eqL (xs.drop n) (ys.drop n) = some q ∧ b = (p && q)
  | 0, xs, ys, b, h => ⟨true, b, by simp [eqL], by simpa using h, by simp⟩
  | n + 1, [], [], b, h => by simp only [eqL, Option.some.injEq] at h; subst h; exact ⟨true, true, by simp [eqL], by simp [eqL], rfl⟩
  | n + 1, x :: xs, y :: ys, b, h => by
    simp only [eqL] at h
    split at h
    · rename_i u v hv hl
      cases h
      obtain ⟨p, q, h1, h2, rfl⟩ := eqL_split n hl
      exact ⟨u && p, q, by simp only [List.take_succ_cons, eqL, hv, h1], by simpa using h2, by simp [Bool.and_assoc]⟩
    · cases h
  | n + 1, [], _ :: _, _, h => by simp [eqL] at h
  | n + 1, _ :: _, [], _, h => by simp [eqL] at h
theorem fitsL_split {P : Program} : ∀ {ts ts' : List TypeId} {xs : List AV}, fitsL P (ts ++ ts') xs = true → fitsL P ts (xs.take ts.length) = true ∧ fitsL P ts' (xs.drop ts.length) = true
  | [], ts', xs, h => ⟨by simp [fitsL], by simpa using h⟩
  | t :: ts, ts', [], h => by simp [fitsL] at h
  | t :: ts, ts', x :: xs, h => by
    simp only [List.cons_append, fitsL, Bool.and_eq_true] at h
    obtain ⟨h1, h2⟩ := fitsL_split h.2
    exact ⟨by simp only [List.length_cons, List.take_succ_cons, fitsL, h.1, h1, Bool.and_self], by simpa using h2⟩
theorem get_drop {us : List Value} {k : Nat} {x : Value} {xs : List Value} (h : us.drop k = x :: xs) : us[k]? = some x ∧ us.drop (k + 1) = xs := by
  refine ⟨by have := List.getElem?_drop (xs := us) (i := k) (j := 0); rw [h] at this; simpa using this.symm, by rw [← List.drop_drop, h]; rfl⟩
theorem items_eq {P : Program} {w : World} {d : Nat} {e : TypeId} (ha : isAggB P e = false) (ht : tOk P e = true) (us vs : List Value) : ∀ (m k : Nat) (b : Bool), fitsL P (List.replicate m e) ((us.drop k).map .sc) = true → fitsL P (List.replicate m e) ((vs.drop k).map .sc) = true →
    eqL ((us.drop k).map .sc) ((vs.drop k).map .sc) = some b → (Op.eqItems (d + 1) e 1 ⟨us⟩ ⟨vs⟩ (List.range' k m)).run P w = .ok b w
  | 0, k, b, h1, h2, h => by
    cases hu : us.drop k with
    | cons x xs => rw [hu] at h1; simp [fitsL] at h1
    | nil =>
      cases hv : vs.drop k with
      | cons x xs => rw [hv] at h2; simp [fitsL] at h2
      | nil =>
        rw [hu, hv] at h
        simp only [List.map_nil, eqL, Option.some.injEq] at h
        subst h
        simp [Op.eqItems]
  | m + 1, k, b, h1, h2, h => by
    cases hu : us.drop k with
    | nil => rw [hu] at h1; simp [fitsL, List.replicate_succ] at h1
    | cons x xs =>
      cases hv : vs.drop k with
      | nil => rw [hv] at h2; simp [fitsL, List.replicate_succ] at h2
      | cons y ys =>
        obtain ⟨hx, hxs⟩ := get_drop hu
        obtain ⟨hy, hys⟩ := get_drop hv
        rw [hu] at h1 h
        rw [hv] at h2 h
        simp only [List.map_cons, List.replicate_succ, fitsL, Bool.and_eq_true] at h1 h2
        simp only [List.map_cons, eqL] at h
        split at h
        · rename_i p q hp hq
          cases h
          have hc := cell_eq (w := w) (d := d) h1.1 h2.1 hp
          have ih := items_eq (w := w) (d := d) ha ht us vs m (k + 1) q (by rw [hxs]; exact h1.2) (by rw [hys]; exact h2.2) (by rw [hxs, hys]; exact hq)
          rw [List.range'_succ]
          unfold Op.eqItems
          simp only [Nat.mul_one, Sem.run_bind, run_part ha ht hx, run_part ha ht hy, Result.andThen_ok, hc]
          cases p with
          | true => simpa using ih
          | false => simp
        · cases h
def arrPl (P : Program) (t : TypeId) : Bool := match P.underlying t with
  | some (.array n e) => !isAggB P e && tOk P e && P.cellsOf e == 1 && P.cellsOf t == n && (P.info? e).isSome && (P.info? t).isSome
  | _ => false
def typesOf (P : Program) (t : TypeId) : List TypeId := match P.underlying t with
  | some (.array n e) => List.replicate n e
  | _ => [t]
def flatFs (P : Program) : Nat → List Field → Bool
  | _, [] => true
  | k, f :: fs => f.offset == k && f.name != "_" && ((!isAggB P f.type && tOk P f.type && typesOf P f.type == [f.type] && flatFs P (k + 1) fs) || (arrPl P f.type && flatFs P (k + P.cellsOf f.type) fs))
theorem arr_eq {P : Program} {w : World} {d : Nat} {t : TypeId} (h : arrPl P t = true) (us vs : List Value) (b : Bool) (h1 : fitsL P (typesOf P t) (us.map .sc) = true) (h2 : fitsL P (typesOf P t) (vs.map .sc) = true) (h3 : eqL (us.map .sc) (vs.map .sc) = some b) :
    (Op.equalIn (d + 2) t (.agg ⟨us⟩) (.agg ⟨vs⟩)).run P w = .ok b w := by
  unfold arrPl at h
  split at h
  · rename_i n e hu
    simp only [Bool.and_eq_true, Bool.not_eq_true', beq_iff_eq] at h
    obtain ⟨⟨⟨⟨⟨ha, ht⟩, hs⟩, hn⟩, hi⟩, _⟩ := h
    obtain ⟨i, hi⟩ := Option.isSome_iff_exists.1 hi
    unfold typesOf at h1 h2
    rw [hu] at h1 h2
    rw [run_equalIn_array w (d + 1) ⟨us⟩ ⟨vs⟩ hu hi, hs, List.range_eq_range']
    exact items_eq ha ht us vs n 0 b h1 h2 h3
  · cases h
theorem ext_list {us : List Value} {k n : Nat} : (⟨us⟩ : Array Value).extract k (k + n) = ⟨(us.drop k).take n⟩ := by
  apply Array.toList_inj.1
  rw [Array.toList_extract]
  simp [List.extract]
theorem fields_eq {P : Program} {w : World} {d : Nat} (us vs : List Value) : ∀ (fs : List Field) (k : Nat) (b : Bool), flatFs P k fs = true → fitsL P (fs.flatMap fun f => typesOf P f.type) ((us.drop k).map .sc) = true → fitsL P (fs.flatMap fun f => typesOf P f.type) ((vs.drop k).map .sc) = true →
    eqL ((us.drop k).map .sc) ((vs.drop k).map .sc) = some b → (Op.eqFields (d + 2) ⟨us⟩ ⟨vs⟩ fs).run P w = .ok b w
  | [], k, b, _, h1, h2, h => by
    cases hu : us.drop k with
    | cons x xs => rw [hu] at h1; simp [fitsL] at h1
    | nil =>
      cases hv : vs.drop k with
      | cons x xs => rw [hv] at h2; simp [fitsL] at h2
      | nil =>
        rw [hu, hv] at h
        simp only [List.map_nil, eqL, Option.some.injEq] at h
        subst h
        simp [Op.eqFields]
  | f :: fs, k, b, hf, h1, h2, h => by
    simp only [flatFs, Bool.and_eq_true, Bool.or_eq_true, beq_iff_eq, bne_iff_ne, ne_eq, Bool.not_eq_true'] at hf
    obtain ⟨⟨ho, hn⟩, hc⟩ := hf
    simp only [List.flatMap_cons] at h1 h2
    obtain ⟨a1, a2⟩ := fitsL_split h1
    obtain ⟨b1, b2⟩ := fitsL_split h2
    obtain ⟨p, q, e1, e2, rfl⟩ := eqL_split (typesOf P f.type).length h
    rw [← List.map_take] at a1 b1
    rw [← List.map_take, ← List.map_take] at e1
    rw [← List.map_drop, List.drop_drop] at a2 b2
    rw [← List.map_drop, ← List.map_drop, List.drop_drop, List.drop_drop] at e2
    have fin : ∀ x y, (part f.type ⟨us⟩ f.offset).run P w = .ok x w → (part f.type ⟨vs⟩ f.offset).run P w = .ok y w → (Op.equalIn (d + 2) f.type x y).run P w = .ok p w → (Op.eqFields (d + 2) ⟨us⟩ ⟨vs⟩ fs).run P w = .ok q w → (Op.eqFields (d + 2) ⟨us⟩ ⟨vs⟩ (f :: fs)).run P w = .ok (p && q) w := by
      intro x y r1 r2 r3 r4
      unfold Op.eqFields
      rw [if_pos hn]
      simp only [Sem.run_bind, r1, r2, Result.andThen_ok, r3]
      cases p with
      | true => simpa using r4
      | false => simp
    rcases hc with ⟨⟨⟨ha, ht⟩, hty⟩, hrest⟩ | ⟨harr, hrest⟩
    · rw [hty] at a1 b1 e1 a2 b2 e2
      simp only [List.length_cons, List.length_nil, Nat.zero_add] at a1 b1 e1 a2 b2 e2
      cases hu : us.drop k with
      | nil => rw [hu] at a1; simp [fitsL] at a1
      | cons x xs =>
        cases hv : vs.drop k with
        | nil => rw [hv] at b1; simp [fitsL] at b1
        | cons y ys =>
          obtain ⟨hx, hxs⟩ := get_drop hu
          obtain ⟨hy, hys⟩ := get_drop hv
          rw [hu] at a1 e1
          rw [hv] at b1 e1
          simp only [List.take_succ_cons, List.take_zero, List.map_cons, List.map_nil, fitsL, Bool.and_true] at a1 b1
          have hp : eqV (.sc x) (.sc y) = some p := by
            simp only [List.take_succ_cons, List.take_zero, List.map_cons, List.map_nil, eqL] at e1
            split at e1
            · rename_i p' q' g1 g2
              cases g2
              simp only [Bool.and_true, Option.some.injEq] at e1
              rw [g1, e1]
            · cases e1
          exact fin x y (by rw [ho]; exact run_part ha ht hx) (by rw [ho]; exact run_part ha ht hy) (cell_eq a1 b1 hp) (fields_eq us vs fs (k + 1) q hrest a2 b2 e2)
    · have harr' := harr
      unfold arrPl at harr'
      split at harr'
      · rename_i n e hu
        simp only [Bool.and_eq_true, Bool.not_eq_true', beq_iff_eq] at harr'
        obtain ⟨_, hi⟩ := harr'
        obtain ⟨i, hi⟩ := Option.isSome_iff_exists.1 hi
        have hlen : (typesOf P f.type).length = P.cellsOf f.type := by
          unfold typesOf
          rw [hu]
          have : P.cellsOf f.type = n := by
            have hq := harr
            unfold arrPl at hq
            rw [hu] at hq
            simp only [Bool.and_eq_true, Bool.not_eq_true', beq_iff_eq] at hq
            exact hq.1.1.2
          simp [this]
        rw [hlen] at a1 b1 e1 a2 b2 e2
        exact fin _ _ (by rw [ho, run_part_arr hu hi, ext_list]) (by rw [ho, run_part_arr hu hi, ext_list]) (arr_eq harr _ _ p a1 b1 e1) (fields_eq us vs fs (k + P.cellsOf f.type) q hrest a2 b2 e2)
      · cases harr'
theorem struct_law {P : Program} {t : TypeId} (ht : P.underlying t = some (.struct (P.fieldsOf t))) (hs : P.stoodInHeld t = false) (hg : P.eqGuardType P.depth t = false) (hf : flatFs P 0 (P.fieldsOf t).toList = true) (htc : tcs P t = (P.fieldsOf t).toList.flatMap fun f => typesOf P f.type)
    (w : World) (x y : Operand) (us vs : List Value) (b : Bool) (h1 : fitsL P (tcs P t) (us.map .sc) = true) (h2 : fitsL P (tcs P t) (vs.map .sc) = true) (h : eqL (us.map .sc) (vs.map .sc) = some b) :
    (do eqGuard .eql t x y (.agg ⟨us⟩) (.agg ⟨vs⟩); binOp .eql t (.agg ⟨us⟩) (.agg ⟨vs⟩) : Sem Value).run P w = .ok (.bool b) w ∧
    (do eqGuard .neq t x y (.agg ⟨us⟩) (.agg ⟨vs⟩); binOp .neq t (.agg ⟨us⟩) (.agg ⟨vs⟩) : Sem Value).run P w = .ok (.bool (!b)) w := by
  rw [htc] at h1 h2
  have hq : (Op.equalIn 10000 t (.agg ⟨us⟩) (.agg ⟨vs⟩)).run P w = .ok b w := by
    have e : (10000 : Nat) = 9997 + 2 + 1 := rfl
    rw [e, run_equalIn_struct w (9997 + 2) t ⟨us⟩ ⟨vs⟩ ht hs]
    exact fields_eq us vs _ 0 b hf h1 h2 h
  constructor
  · simp only [Sem.run_bind, run_eqGuard_agg w .eql t x y ⟨us⟩ ⟨vs⟩ hg, Result.andThen_ok, run_eql_struct, hq]
  · simp only [Sem.run_bind, run_eqGuard_agg w .neq t x y ⟨us⟩ ⟨vs⟩ hg, Result.andThen_ok, run_neq_struct, hq]
theorem array_law {P : Program} {t : TypeId} (ht : arrPl P t = true) (hg : P.eqGuardType P.depth t = false) (htc : tcs P t = typesOf P t)
    (w : World) (x y : Operand) (us vs : List Value) (b : Bool) (h1 : fitsL P (tcs P t) (us.map .sc) = true) (h2 : fitsL P (tcs P t) (vs.map .sc) = true) (h : eqL (us.map .sc) (vs.map .sc) = some b) :
    (do eqGuard .eql t x y (.agg ⟨us⟩) (.agg ⟨vs⟩); binOp .eql t (.agg ⟨us⟩) (.agg ⟨vs⟩) : Sem Value).run P w = .ok (.bool b) w ∧
    (do eqGuard .neq t x y (.agg ⟨us⟩) (.agg ⟨vs⟩); binOp .neq t (.agg ⟨us⟩) (.agg ⟨vs⟩) : Sem Value).run P w = .ok (.bool (!b)) w := by
  rw [htc] at h1 h2
  have hq : (Op.equalIn 10000 t (.agg ⟨us⟩) (.agg ⟨vs⟩)).run P w = .ok b w := arr_eq (d := 9998) ht us vs b h1 h2 h
  constructor
  · simp only [Sem.run_bind, run_eqGuard_agg w .eql t x y ⟨us⟩ ⟨vs⟩ hg, Result.andThen_ok, run_eql_struct, hq]
  · simp only [Sem.run_bind, run_eqGuard_agg w .neq t x y ⟨us⟩ ⟨vs⟩ hg, Result.andThen_ok, run_neq_struct, hq]
end Go.Ab

namespace Go.Proofs.YtaeeffddinppeaaGreatDoor
open Go Go.Ab
attribute [-simp] Prog.bind getCs putCs
attribute [local simp ↓] run_bind
attribute [local simp ↓] runF_bind
attribute [local simp] run_getCsN runF_getCsN facetsC putCs_one run_putCsN
def xorW (a b : Int) : Int := IntKind.u32.wrap ((BitVec.ofInt IntKind.u32.bits a ^^^ BitVec.ofInt IntKind.u32.bits b).toNat)
def orW (a b : Int) : Int := IntKind.u32.wrap ((BitVec.ofInt IntKind.u32.bits a ||| BitVec.ofInt IntKind.u32.bits b).toNat)
def andX (a b : Int) : Int := IntKind.u64.wrap ((BitVec.ofInt IntKind.u64.bits a &&& BitVec.ofInt IntKind.u64.bits b).toNat)
theorem evInt_xor (a b : Int) : evInt .xor .u32 a b = some (.int .u32 (xorW a b)) := rfl
theorem evInt_or (a b : Int) : evInt .or .u32 a b = some (.int .u32 (orW a b)) := rfl
theorem evInt_and64 (a b : Int) : evInt .and .u64 a b = some (.int .u64 (andX a b)) := rfl
theorem orW_nat {x y : Nat} (hx : x < 4294967296) (hy : y < 4294967296) : orW (x : Int) (y : Int) = ((x ||| y : Nat) : Int) := bits_or hx hy
theorem wrap_U32 (x : Int) : U (IntKind.u32.wrap x) := by rw [IntKind.wrap_u32]; unfold U; omega
theorem xorW_U (a b : Int) : U (xorW a b) := wrap_U32 _
def turnP (x : Int) (k : Nat) : Int := x * 2 ^ k % 4294967296 + x / 2 ^ (32 - k)
attribute [local simp ↓] evInt_xor evInt_or evInt_and64
theorem turnP_7 (x : Int) : turnP x 7 = x * 128 % 4294967296 + x / 33554432 := rfl
theorem or_turn_7 {x : Int} (h : U x) : orW (IntKind.u32.wrap (x * 128)) (x / 33554432) = turnP x 7 := by
  obtain ⟨n, rfl⟩ : ∃ n : Nat, x = n := ⟨x.toNat, by unfold U at h; omega⟩
  have hn : n < 4294967296 := by unfold U at h; omega
  have e : IntKind.u32.wrap ((n : Int) * 128) = ((n % 33554432 * 128 : Nat) : Int) := by rw [IntKind.wrap_u32]; omega
  have e2 : (n : Int) / 33554432 = ((n / 33554432 : Nat) : Int) := by omega
  have o := or_add (x := n / 33554432) (y := n % 33554432) 7 (by omega)
  rw [show (2 : Nat) ^ 7 = 128 from rfl] at o
  rw [e, e2, orW_nat (by omega) (by omega), Nat.or_comm, o, turnP_7]
  omega
@[simp] theorem fd25 (w : Int) : w.fdiv (2 ^ min 25 IntKind.u32.bits) = w / 33554432 := by rw [show (2 : Int) ^ min 25 IntKind.u32.bits = 33554432 from by decide +kernel]; exact Int.fdiv_eq_ediv_of_nonneg _ (by omega)
@[simp] theorem sh7 (w : Int) : w * 2 ^ min 7 IntKind.u32.bits = w * 128 := by rw [show (2 : Int) ^ min 7 IntKind.u32.bits = 128 from by decide +kernel]
theorem and_7 : andX 7 31 = 7 := by decide +kernel
set_option maxHeartbeats 1000000 in
theorem e88_7 (x : Int) (h : U x) : (lim Tryz.prog E47 X47).dat 157 [uv x, iv 7] = some [uv (turnP x 7)] := by
  refine fnW Tryz.func157 rfl rfl bodyOk_157 rfl rtys_157 rfl ?_
  have a1 : IntKind.u64.wrap 7 = 7 := by decide +kernel
  have a2 : IntKind.u64.wrap 25 = 25 := by decide +kernel
  have a3 := and_7
  have a4 := or_turn_7 h
  clear h
  repeat' (first
    | ((with_reducible first | apply Wo_u | apply Wo_n | apply ex2 | apply W_sc | apply W_c | apply Wd_u | apply Wd_n | apply ex4 | apply EndQ_ret | apply EndQ_normal); (conv => lhs; simp -implicitDefEqProofs [*]) <;> exact rfl)
    | (with_reducible first | apply Wo_nil | apply W_ss | apply W_srl | apply W_rl | apply W_sblock | apply W_block | apply W_sskip | apply W_skip | apply W_sret | apply W_ret | apply W_sexit | apply W_exit | apply thenW_n | apply thenW_r | apply thenW_e | apply inB_n | apply inB_r | apply inB_e)
    | ((with_reducible apply Wo_gt); (exact rfl); ((conv => lhs; simp -implicitDefEqProofs [*]) <;> exact rfl); (conv => lhs; simp -implicitDefEqProofs [*]) <;> exact rfl)
    | ((with_reducible apply Wo_gf); (exact rfl); ((conv => lhs; simp -implicitDefEqProofs [*]) <;> exact rfl); (exact rfl))
    | ((with_reducible apply Wo_gx); (exact rfl); ((conv => lhs; simp -implicitDefEqProofs [*]) <;> exact rfl))
    | ((with_reducible apply Wo_gsT); (exact rfl); ((conv => lhs; simp -implicitDefEqProofs [*]) <;> exact rfl))
    | ((with_reducible apply Wo_gsF); (exact rfl); ((conv => lhs; simp -implicitDefEqProofs [*]) <;> exact rfl))
    | ((with_reducible apply Wd_gsT); (exact rfl); ((conv => lhs; simp -implicitDefEqProofs [*]) <;> exact rfl))
    | ((with_reducible apply Wd_gsF); (exact rfl); ((conv => lhs; simp -implicitDefEqProofs [*]) <;> exact rfl))
    | ((with_reducible first | apply W_srdl | apply W_rdl); kernel_rfl)
    | ((with_reducible apply Wd_nil); exact rfl)
    | ((with_reducible apply inB_o); rotate_left; exact rfl)
    | (intro h h'; try simp [*, -h] at h'))
  all_goals rfl
theorem turnP_9 (x : Int) : turnP x 9 = x * 512 % 4294967296 + x / 8388608 := rfl
theorem or_turn_9 {x : Int} (h : U x) : orW (IntKind.u32.wrap (x * 512)) (x / 8388608) = turnP x 9 := by
  obtain ⟨n, rfl⟩ : ∃ n : Nat, x = n := ⟨x.toNat, by unfold U at h; omega⟩
  have hn : n < 4294967296 := by unfold U at h; omega
  have e : IntKind.u32.wrap ((n : Int) * 512) = ((n % 8388608 * 512 : Nat) : Int) := by rw [IntKind.wrap_u32]; omega
  have e2 : (n : Int) / 8388608 = ((n / 8388608 : Nat) : Int) := by omega
  have o := or_add (x := n / 8388608) (y := n % 8388608) 9 (by omega)
  rw [show (2 : Nat) ^ 9 = 512 from rfl] at o
  rw [e, e2, orW_nat (by omega) (by omega), Nat.or_comm, o, turnP_9]
  omega
@[simp] theorem fd23 (w : Int) : w.fdiv (2 ^ min 23 IntKind.u32.bits) = w / 8388608 := by rw [show (2 : Int) ^ min 23 IntKind.u32.bits = 8388608 from by decide +kernel]; exact Int.fdiv_eq_ediv_of_nonneg _ (by omega)
@[simp] theorem sh9 (w : Int) : w * 2 ^ min 9 IntKind.u32.bits = w * 512 := by rw [show (2 : Int) ^ min 9 IntKind.u32.bits = 512 from by decide +kernel]
theorem and_9 : andX 9 31 = 9 := by decide +kernel
set_option maxHeartbeats 1000000 in
theorem e88_9 (x : Int) (h : U x) : (lim Tryz.prog E47 X47).dat 157 [uv x, iv 9] = some [uv (turnP x 9)] := by
  refine fnW Tryz.func157 rfl rfl bodyOk_157 rfl rtys_157 rfl ?_
  have a1 : IntKind.u64.wrap 9 = 9 := by decide +kernel
  have a2 : IntKind.u64.wrap 23 = 23 := by decide +kernel
  have a3 := and_9
  have a4 := or_turn_9 h
  clear h
  repeat' (first
    | ((with_reducible first | apply Wo_u | apply Wo_n | apply ex2 | apply W_sc | apply W_c | apply Wd_u | apply Wd_n | apply ex4 | apply EndQ_ret | apply EndQ_normal); (conv => lhs; simp -implicitDefEqProofs [*]) <;> exact rfl)
    | (with_reducible first | apply Wo_nil | apply W_ss | apply W_srl | apply W_rl | apply W_sblock | apply W_block | apply W_sskip | apply W_skip | apply W_sret | apply W_ret | apply W_sexit | apply W_exit | apply thenW_n | apply thenW_r | apply thenW_e | apply inB_n | apply inB_r | apply inB_e)
    | ((with_reducible apply Wo_gt); (exact rfl); ((conv => lhs; simp -implicitDefEqProofs [*]) <;> exact rfl); (conv => lhs; simp -implicitDefEqProofs [*]) <;> exact rfl)
    | ((with_reducible apply Wo_gf); (exact rfl); ((conv => lhs; simp -implicitDefEqProofs [*]) <;> exact rfl); (exact rfl))
    | ((with_reducible apply Wo_gx); (exact rfl); ((conv => lhs; simp -implicitDefEqProofs [*]) <;> exact rfl))
    | ((with_reducible apply Wo_gsT); (exact rfl); ((conv => lhs; simp -implicitDefEqProofs [*]) <;> exact rfl))
    | ((with_reducible apply Wo_gsF); (exact rfl); ((conv => lhs; simp -implicitDefEqProofs [*]) <;> exact rfl))
    | ((with_reducible apply Wd_gsT); (exact rfl); ((conv => lhs; simp -implicitDefEqProofs [*]) <;> exact rfl))
    | ((with_reducible apply Wd_gsF); (exact rfl); ((conv => lhs; simp -implicitDefEqProofs [*]) <;> exact rfl))
    | ((with_reducible first | apply W_srdl | apply W_rdl); kernel_rfl)
    | ((with_reducible apply Wd_nil); exact rfl)
    | ((with_reducible apply inB_o); rotate_left; exact rfl)
    | (intro h h'; try simp [*, -h] at h'))
  all_goals rfl
theorem turnP_13 (x : Int) : turnP x 13 = x * 8192 % 4294967296 + x / 524288 := rfl
theorem or_turn_13 {x : Int} (h : U x) : orW (IntKind.u32.wrap (x * 8192)) (x / 524288) = turnP x 13 := by
  obtain ⟨n, rfl⟩ : ∃ n : Nat, x = n := ⟨x.toNat, by unfold U at h; omega⟩
  have hn : n < 4294967296 := by unfold U at h; omega
  have e : IntKind.u32.wrap ((n : Int) * 8192) = ((n % 524288 * 8192 : Nat) : Int) := by rw [IntKind.wrap_u32]; omega
  have e2 : (n : Int) / 524288 = ((n / 524288 : Nat) : Int) := by omega
  have o := or_add (x := n / 524288) (y := n % 524288) 13 (by omega)
  rw [show (2 : Nat) ^ 13 = 8192 from rfl] at o
  rw [e, e2, orW_nat (by omega) (by omega), Nat.or_comm, o, turnP_13]
  omega
@[simp] theorem fd19 (w : Int) : w.fdiv (2 ^ min 19 IntKind.u32.bits) = w / 524288 := by rw [show (2 : Int) ^ min 19 IntKind.u32.bits = 524288 from by decide +kernel]; exact Int.fdiv_eq_ediv_of_nonneg _ (by omega)
@[simp] theorem sh13 (w : Int) : w * 2 ^ min 13 IntKind.u32.bits = w * 8192 := by rw [show (2 : Int) ^ min 13 IntKind.u32.bits = 8192 from by decide +kernel]
theorem and_13 : andX 13 31 = 13 := by decide +kernel
set_option maxHeartbeats 1000000 in
theorem e88_13 (x : Int) (h : U x) : (lim Tryz.prog E47 X47).dat 157 [uv x, iv 13] = some [uv (turnP x 13)] := by
  refine fnW Tryz.func157 rfl rfl bodyOk_157 rfl rtys_157 rfl ?_
  have a1 : IntKind.u64.wrap 13 = 13 := by decide +kernel
  have a2 : IntKind.u64.wrap 19 = 19 := by decide +kernel
  have a3 := and_13
  have a4 := or_turn_13 h
  clear h
  repeat' (first
    | ((with_reducible first | apply Wo_u | apply Wo_n | apply ex2 | apply W_sc | apply W_c | apply Wd_u | apply Wd_n | apply ex4 | apply EndQ_ret | apply EndQ_normal); (conv => lhs; simp -implicitDefEqProofs [*]) <;> exact rfl)
    | (with_reducible first | apply Wo_nil | apply W_ss | apply W_srl | apply W_rl | apply W_sblock | apply W_block | apply W_sskip | apply W_skip | apply W_sret | apply W_ret | apply W_sexit | apply W_exit | apply thenW_n | apply thenW_r | apply thenW_e | apply inB_n | apply inB_r | apply inB_e)
    | ((with_reducible apply Wo_gt); (exact rfl); ((conv => lhs; simp -implicitDefEqProofs [*]) <;> exact rfl); (conv => lhs; simp -implicitDefEqProofs [*]) <;> exact rfl)
    | ((with_reducible apply Wo_gf); (exact rfl); ((conv => lhs; simp -implicitDefEqProofs [*]) <;> exact rfl); (exact rfl))
    | ((with_reducible apply Wo_gx); (exact rfl); ((conv => lhs; simp -implicitDefEqProofs [*]) <;> exact rfl))
    | ((with_reducible apply Wo_gsT); (exact rfl); ((conv => lhs; simp -implicitDefEqProofs [*]) <;> exact rfl))
    | ((with_reducible apply Wo_gsF); (exact rfl); ((conv => lhs; simp -implicitDefEqProofs [*]) <;> exact rfl))
    | ((with_reducible apply Wd_gsT); (exact rfl); ((conv => lhs; simp -implicitDefEqProofs [*]) <;> exact rfl))
    | ((with_reducible apply Wd_gsF); (exact rfl); ((conv => lhs; simp -implicitDefEqProofs [*]) <;> exact rfl))
    | ((with_reducible first | apply W_srdl | apply W_rdl); kernel_rfl)
    | ((with_reducible apply Wd_nil); exact rfl)
    | ((with_reducible apply inB_o); rotate_left; exact rfl)
    | (intro h h'; try simp [*, -h] at h'))
  all_goals rfl
theorem turnP_18 (x : Int) : turnP x 18 = x * 262144 % 4294967296 + x / 16384 := rfl
theorem or_turn_18 {x : Int} (h : U x) : orW (IntKind.u32.wrap (x * 262144)) (x / 16384) = turnP x 18 := by
  obtain ⟨n, rfl⟩ : ∃ n : Nat, x = n := ⟨x.toNat, by unfold U at h; omega⟩
  have hn : n < 4294967296 := by unfold U at h; omega
  have e : IntKind.u32.wrap ((n : Int) * 262144) = ((n % 16384 * 262144 : Nat) : Int) := by rw [IntKind.wrap_u32]; omega
  have e2 : (n : Int) / 16384 = ((n / 16384 : Nat) : Int) := by omega
  have o := or_add (x := n / 16384) (y := n % 16384) 18 (by omega)
  rw [show (2 : Nat) ^ 18 = 262144 from rfl] at o
  rw [e, e2, orW_nat (by omega) (by omega), Nat.or_comm, o, turnP_18]
  omega
@[simp] theorem fd14 (w : Int) : w.fdiv (2 ^ min 14 IntKind.u32.bits) = w / 16384 := by rw [show (2 : Int) ^ min 14 IntKind.u32.bits = 16384 from by decide +kernel]; exact Int.fdiv_eq_ediv_of_nonneg _ (by omega)
@[simp] theorem sh18 (w : Int) : w * 2 ^ min 18 IntKind.u32.bits = w * 262144 := by rw [show (2 : Int) ^ min 18 IntKind.u32.bits = 262144 from by decide +kernel]
theorem and_18 : andX 18 31 = 18 := by decide +kernel
set_option maxHeartbeats 1000000 in
theorem e88_18 (x : Int) (h : U x) : (lim Tryz.prog E47 X47).dat 157 [uv x, iv 18] = some [uv (turnP x 18)] := by
  refine fnW Tryz.func157 rfl rfl bodyOk_157 rfl rtys_157 rfl ?_
  have a1 : IntKind.u64.wrap 18 = 18 := by decide +kernel
  have a2 : IntKind.u64.wrap 14 = 14 := by decide +kernel
  have a3 := and_18
  have a4 := or_turn_18 h
  clear h
  repeat' (first
    | ((with_reducible first | apply Wo_u | apply Wo_n | apply ex2 | apply W_sc | apply W_c | apply Wd_u | apply Wd_n | apply ex4 | apply EndQ_ret | apply EndQ_normal); (conv => lhs; simp -implicitDefEqProofs [*]) <;> exact rfl)
    | (with_reducible first | apply Wo_nil | apply W_ss | apply W_srl | apply W_rl | apply W_sblock | apply W_block | apply W_sskip | apply W_skip | apply W_sret | apply W_ret | apply W_sexit | apply W_exit | apply thenW_n | apply thenW_r | apply thenW_e | apply inB_n | apply inB_r | apply inB_e)
    | ((with_reducible apply Wo_gt); (exact rfl); ((conv => lhs; simp -implicitDefEqProofs [*]) <;> exact rfl); (conv => lhs; simp -implicitDefEqProofs [*]) <;> exact rfl)
    | ((with_reducible apply Wo_gf); (exact rfl); ((conv => lhs; simp -implicitDefEqProofs [*]) <;> exact rfl); (exact rfl))
    | ((with_reducible apply Wo_gx); (exact rfl); ((conv => lhs; simp -implicitDefEqProofs [*]) <;> exact rfl))
    | ((with_reducible apply Wo_gsT); (exact rfl); ((conv => lhs; simp -implicitDefEqProofs [*]) <;> exact rfl))
    | ((with_reducible apply Wo_gsF); (exact rfl); ((conv => lhs; simp -implicitDefEqProofs [*]) <;> exact rfl))
    | ((with_reducible apply Wd_gsT); (exact rfl); ((conv => lhs; simp -implicitDefEqProofs [*]) <;> exact rfl))
    | ((with_reducible apply Wd_gsF); (exact rfl); ((conv => lhs; simp -implicitDefEqProofs [*]) <;> exact rfl))
    | ((with_reducible first | apply W_srdl | apply W_rdl); kernel_rfl)
    | ((with_reducible apply Wd_nil); exact rfl)
    | ((with_reducible apply inB_o); rotate_left; exact rfl)
    | (intro h h'; try simp [*, -h] at h'))
  all_goals rfl
theorem turnP_U {x : Int} (h : U x) : ∀ i, i ≤ 18 → U (turnP x i) := by
  intro i hi
  unfold U at *
  have : i = 0 ∨ i = 1 ∨ i = 2 ∨ i = 3 ∨ i = 4 ∨ i = 5 ∨ i = 6 ∨ i = 7 ∨ i = 8 ∨ i = 9 ∨ i = 10 ∨ i = 11 ∨ i = 12 ∨ i = 13 ∨ i = 14 ∨ i = 15 ∨ i = 16 ∨ i = 17 ∨ i = 18 := by omega
  rcases this with rfl | rfl | rfl | rfl | rfl | rfl | rfl | rfl | rfl | rfl | rfl | rfl | rfl | rfl | rfl | rfl | rfl | rfl | rfl <;> simp only [turnP, Nat.reduceSub, Int.reducePow] <;> omega
theorem turnP_step {x : Int} (h : U x) : ∀ i, i < 18 → 2 * turnP x i % 4294967296 + turnP x i / 2147483648 = turnP x (i + 1) := by
  intro i hi
  unfold U at *
  have : i = 0 ∨ i = 1 ∨ i = 2 ∨ i = 3 ∨ i = 4 ∨ i = 5 ∨ i = 6 ∨ i = 7 ∨ i = 8 ∨ i = 9 ∨ i = 10 ∨ i = 11 ∨ i = 12 ∨ i = 13 ∨ i = 14 ∨ i = 15 ∨ i = 16 ∨ i = 17 := by omega
  rcases this with rfl | rfl | rfl | rfl | rfl | rfl | rfl | rfl | rfl | rfl | rfl | rfl | rfl | rfl | rfl | rfl | rfl | rfl
  · simp only [turnP, Nat.reduceSub, Nat.reduceAdd, Int.reducePow]
    have e1 : x * 1 % 4294967296 = x % 4294967296 * 1 := by omega
    have e2 : x * 2 % 4294967296 = x % 2147483648 * 2 := by omega
    rw [e1, e2]
    obtain ⟨q, t, r, hx, ht, hr⟩ : ∃ q t r : Int, x = 4294967296 * q + 2147483648 * t + r ∧ (t = 0 ∨ t = 1) ∧ 0 ≤ r ∧ r < 2147483648 := ⟨x / 4294967296, x / 2147483648 % 2, x % 2147483648, by omega, by omega, by omega, by omega⟩
    have hq : 0 ≤ q ∧ q < 1 := by omega
    obtain ⟨s, hs⟩ : ∃ s, s = r * 1 + q := ⟨_, rfl⟩
    have hs1 : 0 ≤ s ∧ s < 2147483648 := by omega
    have g0 : (2147483648 * 0 + r) * 1 + q = s := by omega
    have g1 : (2147483648 * 1 + r) * 1 + q = 2147483648 + s := by omega
    have g2 : r * 2 + (2 * q + 0) = 2 * s := by omega
    have g3 : r * 2 + (2 * q + 1) = 2 * s + 1 := by omega
    have f1 : x % 4294967296 = 2147483648 * t + r := by omega
    have f2 : x / 4294967296 = q := by omega
    have f3 : x % 2147483648 = r := by omega
    have f4 : x / 2147483648 = 2 * q + t := by omega
    rw [f1, f2, f3, f4]
    rcases ht with rfl | rfl
    · rw [g0, g2]; clear g0 g1 g2 g3 f1 f2 f3 f4 e1 e2 hs hx hr hq; omega
    · rw [g1, g3]; clear g0 g1 g2 g3 f1 f2 f3 f4 e1 e2 hs hx hr hq; omega
  · simp only [turnP, Nat.reduceSub, Nat.reduceAdd, Int.reducePow]
    have e1 : x * 2 % 4294967296 = x % 2147483648 * 2 := by omega
    have e2 : x * 4 % 4294967296 = x % 1073741824 * 4 := by omega
    rw [e1, e2]
    obtain ⟨q, t, r, hx, ht, hr⟩ : ∃ q t r : Int, x = 2147483648 * q + 1073741824 * t + r ∧ (t = 0 ∨ t = 1) ∧ 0 ≤ r ∧ r < 1073741824 := ⟨x / 2147483648, x / 1073741824 % 2, x % 1073741824, by omega, by omega, by omega, by omega⟩
    have hq : 0 ≤ q ∧ q < 2 := by omega
    obtain ⟨s, hs⟩ : ∃ s, s = r * 2 + q := ⟨_, rfl⟩
    have hs1 : 0 ≤ s ∧ s < 2147483648 := by omega
    have g0 : (1073741824 * 0 + r) * 2 + q = s := by omega
    have g1 : (1073741824 * 1 + r) * 2 + q = 2147483648 + s := by omega
    have g2 : r * 4 + (2 * q + 0) = 2 * s := by omega
    have g3 : r * 4 + (2 * q + 1) = 2 * s + 1 := by omega
    have f1 : x % 2147483648 = 1073741824 * t + r := by omega
    have f2 : x / 2147483648 = q := by omega
    have f3 : x % 1073741824 = r := by omega
    have f4 : x / 1073741824 = 2 * q + t := by omega
    rw [f1, f2, f3, f4]
    rcases ht with rfl | rfl
    · rw [g0, g2]; clear g0 g1 g2 g3 f1 f2 f3 f4 e1 e2 hs hx hr hq; omega
    · rw [g1, g3]; clear g0 g1 g2 g3 f1 f2 f3 f4 e1 e2 hs hx hr hq; omega
  · simp only [turnP, Nat.reduceSub, Nat.reduceAdd, Int.reducePow]
    have e1 : x * 4 % 4294967296 = x % 1073741824 * 4 := by omega
    have e2 : x * 8 % 4294967296 = x % 536870912 * 8 := by omega
    rw [e1, e2]
    obtain ⟨q, t, r, hx, ht, hr⟩ : ∃ q t r : Int, x = 1073741824 * q + 536870912 * t + r ∧ (t = 0 ∨ t = 1) ∧ 0 ≤ r ∧ r < 536870912 := ⟨x / 1073741824, x / 536870912 % 2, x % 536870912, by omega, by omega, by omega, by omega⟩
    have hq : 0 ≤ q ∧ q < 4 := by omega
    obtain ⟨s, hs⟩ : ∃ s, s = r * 4 + q := ⟨_, rfl⟩
    have hs1 : 0 ≤ s ∧ s < 2147483648 := by omega
    have g0 : (536870912 * 0 + r) * 4 + q = s := by omega
    have g1 : (536870912 * 1 + r) * 4 + q = 2147483648 + s := by omega
    have g2 : r * 8 + (2 * q + 0) = 2 * s := by omega
    have g3 : r * 8 + (2 * q + 1) = 2 * s + 1 := by omega
    have f1 : x % 1073741824 = 536870912 * t + r := by omega
    have f2 : x / 1073741824 = q := by omega
    have f3 : x % 536870912 = r := by omega
    have f4 : x / 536870912 = 2 * q + t := by omega
    rw [f1, f2, f3, f4]
    rcases ht with rfl | rfl
    · rw [g0, g2]; clear g0 g1 g2 g3 f1 f2 f3 f4 e1 e2 hs hx hr hq; omega
    · rw [g1, g3]; clear g0 g1 g2 g3 f1 f2 f3 f4 e1 e2 hs hx hr hq; omega
  · simp only [turnP, Nat.reduceSub, Nat.reduceAdd, Int.reducePow]
    have e1 : x * 8 % 4294967296 = x % 536870912 * 8 := by omega
    have e2 : x * 16 % 4294967296 = x % 268435456 * 16 := by omega
    rw [e1, e2]
    obtain ⟨q, t, r, hx, ht, hr⟩ : ∃ q t r : Int, x = 536870912 * q + 268435456 * t + r ∧ (t = 0 ∨ t = 1) ∧ 0 ≤ r ∧ r < 268435456 := ⟨x / 536870912, x / 268435456 % 2, x % 268435456, by omega, by omega, by omega, by omega⟩
    have hq : 0 ≤ q ∧ q < 8 := by omega
    obtain ⟨s, hs⟩ : ∃ s, s = r * 8 + q := ⟨_, rfl⟩
    have hs1 : 0 ≤ s ∧ s < 2147483648 := by omega
    have g0 : (268435456 * 0 + r) * 8 + q = s := by omega
    have g1 : (268435456 * 1 + r) * 8 + q = 2147483648 + s := by omega
    have g2 : r * 16 + (2 * q + 0) = 2 * s := by omega
    have g3 : r * 16 + (2 * q + 1) = 2 * s + 1 := by omega
    have f1 : x % 536870912 = 268435456 * t + r := by omega
    have f2 : x / 536870912 = q := by omega
    have f3 : x % 268435456 = r := by omega
    have f4 : x / 268435456 = 2 * q + t := by omega
    rw [f1, f2, f3, f4]
    rcases ht with rfl | rfl
    · rw [g0, g2]; clear g0 g1 g2 g3 f1 f2 f3 f4 e1 e2 hs hx hr hq; omega
    · rw [g1, g3]; clear g0 g1 g2 g3 f1 f2 f3 f4 e1 e2 hs hx hr hq; omega
  · simp only [turnP, Nat.reduceSub, Nat.reduceAdd, Int.reducePow]
    have e1 : x * 16 % 4294967296 = x % 268435456 * 16 := by omega
    have e2 : x * 32 % 4294967296 = x % 134217728 * 32 := by omega
    rw [e1, e2]
    obtain ⟨q, t, r, hx, ht, hr⟩ : ∃ q t r : Int, x = 268435456 * q + 134217728 * t + r ∧ (t = 0 ∨ t = 1) ∧ 0 ≤ r ∧ r < 134217728 := ⟨x / 268435456, x / 134217728 % 2, x % 134217728, by omega, by omega, by omega, by omega⟩
    have hq : 0 ≤ q ∧ q < 16 := by omega
    obtain ⟨s, hs⟩ : ∃ s, s = r * 16 + q := ⟨_, rfl⟩
    have hs1 : 0 ≤ s ∧ s < 2147483648 := by omega
    have g0 : (134217728 * 0 + r) * 16 + q = s := by omega
    have g1 : (134217728 * 1 + r) * 16 + q = 2147483648 + s := by omega
    have g2 : r * 32 + (2 * q + 0) = 2 * s := by omega
    have g3 : r * 32 + (2 * q + 1) = 2 * s + 1 := by omega
    have f1 : x % 268435456 = 134217728 * t + r := by omega
    have f2 : x / 268435456 = q := by omega
    have f3 : x % 134217728 = r := by omega
    have f4 : x / 134217728 = 2 * q + t := by omega
    rw [f1, f2, f3, f4]
    rcases ht with rfl | rfl
    · rw [g0, g2]; clear g0 g1 g2 g3 f1 f2 f3 f4 e1 e2 hs hx hr hq; omega
    · rw [g1, g3]; clear g0 g1 g2 g3 f1 f2 f3 f4 e1 e2 hs hx hr hq; omega
  · simp only [turnP, Nat.reduceSub, Nat.reduceAdd, Int.reducePow]
    have e1 : x * 32 % 4294967296 = x % 134217728 * 32 := by omega
    have e2 : x * 64 % 4294967296 = x % 67108864 * 64 := by omega
    rw [e1, e2]
    obtain ⟨q, t, r, hx, ht, hr⟩ : ∃ q t r : Int, x = 134217728 * q + 67108864 * t + r ∧ (t = 0 ∨ t = 1) ∧ 0 ≤ r ∧ r < 67108864 := ⟨x / 134217728, x / 67108864 % 2, x % 67108864, by omega, by omega, by omega, by omega⟩
    have hq : 0 ≤ q ∧ q < 32 := by omega
    obtain ⟨s, hs⟩ : ∃ s, s = r * 32 + q := ⟨_, rfl⟩
    have hs1 : 0 ≤ s ∧ s < 2147483648 := by omega
    have g0 : (67108864 * 0 + r) * 32 + q = s := by omega
    have g1 : (67108864 * 1 + r) * 32 + q = 2147483648 + s := by omega
    have g2 : r * 64 + (2 * q + 0) = 2 * s := by omega
    have g3 : r * 64 + (2 * q + 1) = 2 * s + 1 := by omega
    have f1 : x % 134217728 = 67108864 * t + r := by omega
    have f2 : x / 134217728 = q := by omega
    have f3 : x % 67108864 = r := by omega
    have f4 : x / 67108864 = 2 * q + t := by omega
    rw [f1, f2, f3, f4]
    rcases ht with rfl | rfl
    · rw [g0, g2]; clear g0 g1 g2 g3 f1 f2 f3 f4 e1 e2 hs hx hr hq; omega
    · rw [g1, g3]; clear g0 g1 g2 g3 f1 f2 f3 f4 e1 e2 hs hx hr hq; omega
  · simp only [turnP, Nat.reduceSub, Nat.reduceAdd, Int.reducePow]
    have e1 : x * 64 % 4294967296 = x % 67108864 * 64 := by omega
    have e2 : x * 128 % 4294967296 = x % 33554432 * 128 := by omega
    rw [e1, e2]
    obtain ⟨q, t, r, hx, ht, hr⟩ : ∃ q t r : Int, x = 67108864 * q + 33554432 * t + r ∧ (t = 0 ∨ t = 1) ∧ 0 ≤ r ∧ r < 33554432 := ⟨x / 67108864, x / 33554432 % 2, x % 33554432, by omega, by omega, by omega, by omega⟩
    have hq : 0 ≤ q ∧ q < 64 := by omega
    obtain ⟨s, hs⟩ : ∃ s, s = r * 64 + q := ⟨_, rfl⟩
    have hs1 : 0 ≤ s ∧ s < 2147483648 := by omega
    have g0 : (33554432 * 0 + r) * 64 + q = s := by omega
    have g1 : (33554432 * 1 + r) * 64 + q = 2147483648 + s := by omega
    have g2 : r * 128 + (2 * q + 0) = 2 * s := by omega
    have g3 : r * 128 + (2 * q + 1) = 2 * s + 1 := by omega
    have f1 : x % 67108864 = 33554432 * t + r := by omega
    have f2 : x / 67108864 = q := by omega
    have f3 : x % 33554432 = r := by omega
    have f4 : x / 33554432 = 2 * q + t := by omega
    rw [f1, f2, f3, f4]
    rcases ht with rfl | rfl
    · rw [g0, g2]; clear g0 g1 g2 g3 f1 f2 f3 f4 e1 e2 hs hx hr hq; omega
    · rw [g1, g3]; clear g0 g1 g2 g3 f1 f2 f3 f4 e1 e2 hs hx hr hq; omega
  · simp only [turnP, Nat.reduceSub, Nat.reduceAdd, Int.reducePow]
    have e1 : x * 128 % 4294967296 = x % 33554432 * 128 := by omega
    have e2 : x * 256 % 4294967296 = x % 16777216 * 256 := by omega
    rw [e1, e2]
    obtain ⟨q, t, r, hx, ht, hr⟩ : ∃ q t r : Int, x = 33554432 * q + 16777216 * t + r ∧ (t = 0 ∨ t = 1) ∧ 0 ≤ r ∧ r < 16777216 := ⟨x / 33554432, x / 16777216 % 2, x % 16777216, by omega, by omega, by omega, by omega⟩
    have hq : 0 ≤ q ∧ q < 128 := by omega
    obtain ⟨s, hs⟩ : ∃ s, s = r * 128 + q := ⟨_, rfl⟩
    have hs1 : 0 ≤ s ∧ s < 2147483648 := by omega
    have g0 : (16777216 * 0 + r) * 128 + q = s := by omega
    have g1 : (16777216 * 1 + r) * 128 + q = 2147483648 + s := by omega
    have g2 : r * 256 + (2 * q + 0) = 2 * s := by omega
    have g3 : r * 256 + (2 * q + 1) = 2 * s + 1 := by omega
    have f1 : x % 33554432 = 16777216 * t + r := by omega
    have f2 : x / 33554432 = q := by omega
    have f3 : x % 16777216 = r := by omega
    have f4 : x / 16777216 = 2 * q + t := by omega
    rw [f1, f2, f3, f4]
    rcases ht with rfl | rfl
    · rw [g0, g2]; clear g0 g1 g2 g3 f1 f2 f3 f4 e1 e2 hs hx hr hq; omega
    · rw [g1, g3]; clear g0 g1 g2 g3 f1 f2 f3 f4 e1 e2 hs hx hr hq; omega
  · simp only [turnP, Nat.reduceSub, Nat.reduceAdd, Int.reducePow]
    have e1 : x * 256 % 4294967296 = x % 16777216 * 256 := by omega
    have e2 : x * 512 % 4294967296 = x % 8388608 * 512 := by omega
    rw [e1, e2]
    obtain ⟨q, t, r, hx, ht, hr⟩ : ∃ q t r : Int, x = 16777216 * q + 8388608 * t + r ∧ (t = 0 ∨ t = 1) ∧ 0 ≤ r ∧ r < 8388608 := ⟨x / 16777216, x / 8388608 % 2, x % 8388608, by omega, by omega, by omega, by omega⟩
    have hq : 0 ≤ q ∧ q < 256 := by omega
    obtain ⟨s, hs⟩ : ∃ s, s = r * 256 + q := ⟨_, rfl⟩
    have hs1 : 0 ≤ s ∧ s < 2147483648 := by omega
    have g0 : (8388608 * 0 + r) * 256 + q = s := by omega
    have g1 : (8388608 * 1 + r) * 256 + q = 2147483648 + s := by omega
    have g2 : r * 512 + (2 * q + 0) = 2 * s := by omega
    have g3 : r * 512 + (2 * q + 1) = 2 * s + 1 := by omega
    have f1 : x % 16777216 = 8388608 * t + r := by omega
    have f2 : x / 16777216 = q := by omega
    have f3 : x % 8388608 = r := by omega
    have f4 : x / 8388608 = 2 * q + t := by omega
    rw [f1, f2, f3, f4]
    rcases ht with rfl | rfl
    · rw [g0, g2]; clear g0 g1 g2 g3 f1 f2 f3 f4 e1 e2 hs hx hr hq; omega
    · rw [g1, g3]; clear g0 g1 g2 g3 f1 f2 f3 f4 e1 e2 hs hx hr hq; omega
  · simp only [turnP, Nat.reduceSub, Nat.reduceAdd, Int.reducePow]
    have e1 : x * 512 % 4294967296 = x % 8388608 * 512 := by omega
    have e2 : x * 1024 % 4294967296 = x % 4194304 * 1024 := by omega
    rw [e1, e2]
    obtain ⟨q, t, r, hx, ht, hr⟩ : ∃ q t r : Int, x = 8388608 * q + 4194304 * t + r ∧ (t = 0 ∨ t = 1) ∧ 0 ≤ r ∧ r < 4194304 := ⟨x / 8388608, x / 4194304 % 2, x % 4194304, by omega, by omega, by omega, by omega⟩
    have hq : 0 ≤ q ∧ q < 512 := by omega
    obtain ⟨s, hs⟩ : ∃ s, s = r * 512 + q := ⟨_, rfl⟩
    have hs1 : 0 ≤ s ∧ s < 2147483648 := by omega
    have g0 : (4194304 * 0 + r) * 512 + q = s := by omega
    have g1 : (4194304 * 1 + r) * 512 + q = 2147483648 + s := by omega
    have g2 : r * 1024 + (2 * q + 0) = 2 * s := by omega
    have g3 : r * 1024 + (2 * q + 1) = 2 * s + 1 := by omega
    have f1 : x % 8388608 = 4194304 * t + r := by omega
    have f2 : x / 8388608 = q := by omega
    have f3 : x % 4194304 = r := by omega
    have f4 : x / 4194304 = 2 * q + t := by omega
    rw [f1, f2, f3, f4]
    rcases ht with rfl | rfl
    · rw [g0, g2]; clear g0 g1 g2 g3 f1 f2 f3 f4 e1 e2 hs hx hr hq; omega
    · rw [g1, g3]; clear g0 g1 g2 g3 f1 f2 f3 f4 e1 e2 hs hx hr hq; omega
  · simp only [turnP, Nat.reduceSub, Nat.reduceAdd, Int.reducePow]
    have e1 : x * 1024 % 4294967296 = x % 4194304 * 1024 := by omega
    have e2 : x * 2048 % 4294967296 = x % 2097152 * 2048 := by omega
    rw [e1, e2]
    obtain ⟨q, t, r, hx, ht, hr⟩ : ∃ q t r : Int, x = 4194304 * q + 2097152 * t + r ∧ (t = 0 ∨ t = 1) ∧ 0 ≤ r ∧ r < 2097152 := ⟨x / 4194304, x / 2097152 % 2, x % 2097152, by omega, by omega, by omega, by omega⟩
    have hq : 0 ≤ q ∧ q < 1024 := by omega
    obtain ⟨s, hs⟩ : ∃ s, s = r * 1024 + q := ⟨_, rfl⟩
    have hs1 : 0 ≤ s ∧ s < 2147483648 := by omega
    have g0 : (2097152 * 0 + r) * 1024 + q = s := by omega
    have g1 : (2097152 * 1 + r) * 1024 + q = 2147483648 + s := by omega
    have g2 : r * 2048 + (2 * q + 0) = 2 * s := by omega
    have g3 : r * 2048 + (2 * q + 1) = 2 * s + 1 := by omega
    have f1 : x % 4194304 = 2097152 * t + r := by omega
    have f2 : x / 4194304 = q := by omega
    have f3 : x % 2097152 = r := by omega
    have f4 : x / 2097152 = 2 * q + t := by omega
    rw [f1, f2, f3, f4]
    rcases ht with rfl | rfl
    · rw [g0, g2]; clear g0 g1 g2 g3 f1 f2 f3 f4 e1 e2 hs hx hr hq; omega
    · rw [g1, g3]; clear g0 g1 g2 g3 f1 f2 f3 f4 e1 e2 hs hx hr hq; omega
  · simp only [turnP, Nat.reduceSub, Nat.reduceAdd, Int.reducePow]
    have e1 : x * 2048 % 4294967296 = x % 2097152 * 2048 := by omega
    have e2 : x * 4096 % 4294967296 = x % 1048576 * 4096 := by omega
    rw [e1, e2]
    obtain ⟨q, t, r, hx, ht, hr⟩ : ∃ q t r : Int, x = 2097152 * q + 1048576 * t + r ∧ (t = 0 ∨ t = 1) ∧ 0 ≤ r ∧ r < 1048576 := ⟨x / 2097152, x / 1048576 % 2, x % 1048576, by omega, by omega, by omega, by omega⟩
    have hq : 0 ≤ q ∧ q < 2048 := by omega
    obtain ⟨s, hs⟩ : ∃ s, s = r * 2048 + q := ⟨_, rfl⟩
    have hs1 : 0 ≤ s ∧ s < 2147483648 := by omega
    have g0 : (1048576 * 0 + r) * 2048 + q = s := by omega
    have g1 : (1048576 * 1 + r) * 2048 + q = 2147483648 + s := by omega
    have g2 : r * 4096 + (2 * q + 0) = 2 * s := by omega
    have g3 : r * 4096 + (2 * q + 1) = 2 * s + 1 := by omega
    have f1 : x % 2097152 = 1048576 * t + r := by omega
    have f2 : x / 2097152 = q := by omega
    have f3 : x % 1048576 = r := by omega
    have f4 : x / 1048576 = 2 * q + t := by omega
    rw [f1, f2, f3, f4]
    rcases ht with rfl | rfl
    · rw [g0, g2]; clear g0 g1 g2 g3 f1 f2 f3 f4 e1 e2 hs hx hr hq; omega
    · rw [g1, g3]; clear g0 g1 g2 g3 f1 f2 f3 f4 e1 e2 hs hx hr hq; omega
  · simp only [turnP, Nat.reduceSub, Nat.reduceAdd, Int.reducePow]
    have e1 : x * 4096 % 4294967296 = x % 1048576 * 4096 := by omega
    have e2 : x * 8192 % 4294967296 = x % 524288 * 8192 := by omega
    rw [e1, e2]
    obtain ⟨q, t, r, hx, ht, hr⟩ : ∃ q t r : Int, x = 1048576 * q + 524288 * t + r ∧ (t = 0 ∨ t = 1) ∧ 0 ≤ r ∧ r < 524288 := ⟨x / 1048576, x / 524288 % 2, x % 524288, by omega, by omega, by omega, by omega⟩
    have hq : 0 ≤ q ∧ q < 4096 := by omega
    obtain ⟨s, hs⟩ : ∃ s, s = r * 4096 + q := ⟨_, rfl⟩
    have hs1 : 0 ≤ s ∧ s < 2147483648 := by omega
    have g0 : (524288 * 0 + r) * 4096 + q = s := by omega
    have g1 : (524288 * 1 + r) * 4096 + q = 2147483648 + s := by omega
    have g2 : r * 8192 + (2 * q + 0) = 2 * s := by omega
    have g3 : r * 8192 + (2 * q + 1) = 2 * s + 1 := by omega
    have f1 : x % 1048576 = 524288 * t + r := by omega
    have f2 : x / 1048576 = q := by omega
    have f3 : x % 524288 = r := by omega
    have f4 : x / 524288 = 2 * q + t := by omega
    rw [f1, f2, f3, f4]
    rcases ht with rfl | rfl
    · rw [g0, g2]; clear g0 g1 g2 g3 f1 f2 f3 f4 e1 e2 hs hx hr hq; omega
    · rw [g1, g3]; clear g0 g1 g2 g3 f1 f2 f3 f4 e1 e2 hs hx hr hq; omega
  · simp only [turnP, Nat.reduceSub, Nat.reduceAdd, Int.reducePow]
    have e1 : x * 8192 % 4294967296 = x % 524288 * 8192 := by omega
    have e2 : x * 16384 % 4294967296 = x % 262144 * 16384 := by omega
    rw [e1, e2]
    obtain ⟨q, t, r, hx, ht, hr⟩ : ∃ q t r : Int, x = 524288 * q + 262144 * t + r ∧ (t = 0 ∨ t = 1) ∧ 0 ≤ r ∧ r < 262144 := ⟨x / 524288, x / 262144 % 2, x % 262144, by omega, by omega, by omega, by omega⟩
    have hq : 0 ≤ q ∧ q < 8192 := by omega
    obtain ⟨s, hs⟩ : ∃ s, s = r * 8192 + q := ⟨_, rfl⟩
    have hs1 : 0 ≤ s ∧ s < 2147483648 := by omega
    have g0 : (262144 * 0 + r) * 8192 + q = s := by omega
    have g1 : (262144 * 1 + r) * 8192 + q = 2147483648 + s := by omega
    have g2 : r * 16384 + (2 * q + 0) = 2 * s := by omega
    have g3 : r * 16384 + (2 * q + 1) = 2 * s + 1 := by omega
    have f1 : x % 524288 = 262144 * t + r := by omega
    have f2 : x / 524288 = q := by omega
    have f3 : x % 262144 = r := by omega
    have f4 : x / 262144 = 2 * q + t := by omega
    rw [f1, f2, f3, f4]
    rcases ht with rfl | rfl
    · rw [g0, g2]; clear g0 g1 g2 g3 f1 f2 f3 f4 e1 e2 hs hx hr hq; omega
    · rw [g1, g3]; clear g0 g1 g2 g3 f1 f2 f3 f4 e1 e2 hs hx hr hq; omega
  · simp only [turnP, Nat.reduceSub, Nat.reduceAdd, Int.reducePow]
    have e1 : x * 16384 % 4294967296 = x % 262144 * 16384 := by omega
    have e2 : x * 32768 % 4294967296 = x % 131072 * 32768 := by omega
    rw [e1, e2]
    obtain ⟨q, t, r, hx, ht, hr⟩ : ∃ q t r : Int, x = 262144 * q + 131072 * t + r ∧ (t = 0 ∨ t = 1) ∧ 0 ≤ r ∧ r < 131072 := ⟨x / 262144, x / 131072 % 2, x % 131072, by omega, by omega, by omega, by omega⟩
    have hq : 0 ≤ q ∧ q < 16384 := by omega
    obtain ⟨s, hs⟩ : ∃ s, s = r * 16384 + q := ⟨_, rfl⟩
    have hs1 : 0 ≤ s ∧ s < 2147483648 := by omega
    have g0 : (131072 * 0 + r) * 16384 + q = s := by omega
    have g1 : (131072 * 1 + r) * 16384 + q = 2147483648 + s := by omega
    have g2 : r * 32768 + (2 * q + 0) = 2 * s := by omega
    have g3 : r * 32768 + (2 * q + 1) = 2 * s + 1 := by omega
    have f1 : x % 262144 = 131072 * t + r := by omega
    have f2 : x / 262144 = q := by omega
    have f3 : x % 131072 = r := by omega
    have f4 : x / 131072 = 2 * q + t := by omega
    rw [f1, f2, f3, f4]
    rcases ht with rfl | rfl
    · rw [g0, g2]; clear g0 g1 g2 g3 f1 f2 f3 f4 e1 e2 hs hx hr hq; omega
    · rw [g1, g3]; clear g0 g1 g2 g3 f1 f2 f3 f4 e1 e2 hs hx hr hq; omega
  · simp only [turnP, Nat.reduceSub, Nat.reduceAdd, Int.reducePow]
    have e1 : x * 32768 % 4294967296 = x % 131072 * 32768 := by omega
    have e2 : x * 65536 % 4294967296 = x % 65536 * 65536 := by omega
    rw [e1, e2]
    obtain ⟨q, t, r, hx, ht, hr⟩ : ∃ q t r : Int, x = 131072 * q + 65536 * t + r ∧ (t = 0 ∨ t = 1) ∧ 0 ≤ r ∧ r < 65536 := ⟨x / 131072, x / 65536 % 2, x % 65536, by omega, by omega, by omega, by omega⟩
    have hq : 0 ≤ q ∧ q < 32768 := by omega
    obtain ⟨s, hs⟩ : ∃ s, s = r * 32768 + q := ⟨_, rfl⟩
    have hs1 : 0 ≤ s ∧ s < 2147483648 := by omega
    have g0 : (65536 * 0 + r) * 32768 + q = s := by omega
    have g1 : (65536 * 1 + r) * 32768 + q = 2147483648 + s := by omega
    have g2 : r * 65536 + (2 * q + 0) = 2 * s := by omega
    have g3 : r * 65536 + (2 * q + 1) = 2 * s + 1 := by omega
    have f1 : x % 131072 = 65536 * t + r := by omega
    have f2 : x / 131072 = q := by omega
    have f3 : x % 65536 = r := by omega
    have f4 : x / 65536 = 2 * q + t := by omega
    rw [f1, f2, f3, f4]
    rcases ht with rfl | rfl
    · rw [g0, g2]; clear g0 g1 g2 g3 f1 f2 f3 f4 e1 e2 hs hx hr hq; omega
    · rw [g1, g3]; clear g0 g1 g2 g3 f1 f2 f3 f4 e1 e2 hs hx hr hq; omega
  · simp only [turnP, Nat.reduceSub, Nat.reduceAdd, Int.reducePow]
    have e1 : x * 65536 % 4294967296 = x % 65536 * 65536 := by omega
    have e2 : x * 131072 % 4294967296 = x % 32768 * 131072 := by omega
    rw [e1, e2]
    obtain ⟨q, t, r, hx, ht, hr⟩ : ∃ q t r : Int, x = 65536 * q + 32768 * t + r ∧ (t = 0 ∨ t = 1) ∧ 0 ≤ r ∧ r < 32768 := ⟨x / 65536, x / 32768 % 2, x % 32768, by omega, by omega, by omega, by omega⟩
    have hq : 0 ≤ q ∧ q < 65536 := by omega
    obtain ⟨s, hs⟩ : ∃ s, s = r * 65536 + q := ⟨_, rfl⟩
    have hs1 : 0 ≤ s ∧ s < 2147483648 := by omega
    have g0 : (32768 * 0 + r) * 65536 + q = s := by omega
    have g1 : (32768 * 1 + r) * 65536 + q = 2147483648 + s := by omega
    have g2 : r * 131072 + (2 * q + 0) = 2 * s := by omega
    have g3 : r * 131072 + (2 * q + 1) = 2 * s + 1 := by omega
    have f1 : x % 65536 = 32768 * t + r := by omega
    have f2 : x / 65536 = q := by omega
    have f3 : x % 32768 = r := by omega
    have f4 : x / 32768 = 2 * q + t := by omega
    rw [f1, f2, f3, f4]
    rcases ht with rfl | rfl
    · rw [g0, g2]; clear g0 g1 g2 g3 f1 f2 f3 f4 e1 e2 hs hx hr hq; omega
    · rw [g1, g3]; clear g0 g1 g2 g3 f1 f2 f3 f4 e1 e2 hs hx hr hq; omega
  · simp only [turnP, Nat.reduceSub, Nat.reduceAdd, Int.reducePow]
    have e1 : x * 131072 % 4294967296 = x % 32768 * 131072 := by omega
    have e2 : x * 262144 % 4294967296 = x % 16384 * 262144 := by omega
    rw [e1, e2]
    obtain ⟨q, t, r, hx, ht, hr⟩ : ∃ q t r : Int, x = 32768 * q + 16384 * t + r ∧ (t = 0 ∨ t = 1) ∧ 0 ≤ r ∧ r < 16384 := ⟨x / 32768, x / 16384 % 2, x % 16384, by omega, by omega, by omega, by omega⟩
    have hq : 0 ≤ q ∧ q < 131072 := by omega
    obtain ⟨s, hs⟩ : ∃ s, s = r * 131072 + q := ⟨_, rfl⟩
    have hs1 : 0 ≤ s ∧ s < 2147483648 := by omega
    have g0 : (16384 * 0 + r) * 131072 + q = s := by omega
    have g1 : (16384 * 1 + r) * 131072 + q = 2147483648 + s := by omega
    have g2 : r * 262144 + (2 * q + 0) = 2 * s := by omega
    have g3 : r * 262144 + (2 * q + 1) = 2 * s + 1 := by omega
    have f1 : x % 32768 = 16384 * t + r := by omega
    have f2 : x / 32768 = q := by omega
    have f3 : x % 16384 = r := by omega
    have f4 : x / 16384 = 2 * q + t := by omega
    rw [f1, f2, f3, f4]
    rcases ht with rfl | rfl
    · rw [g0, g2]; clear g0 g1 g2 g3 f1 f2 f3 f4 e1 e2 hs hx hr hq; omega
    · rw [g1, g3]; clear g0 g1 g2 g3 f1 f2 f3 f4 e1 e2 hs hx hr hq; omega
theorem turnP_zero {x : Int} (h : U x) : turnP x 0 = x := by
  unfold U at h; simp only [turnP, Nat.reduceSub, Int.reducePow]; omega
set_option maxHeartbeats 1000000 in
theorem e78_7 (x : Int) (h : U x) : (lim Tryz.prog E47 X47).dat 110 [uv x, iv 7] = some [uv (turnP x 7)] := by
  refine fnW Tryz.func110 rfl rfl bodyOk_110 rfl rtys_110 rfl ?_
  have h88 := e88_7 x h
  clear h
  repeat' (first
    | ((with_reducible first | apply Wo_u | apply Wo_n | apply ex2 | apply W_sc | apply W_c | apply Wd_u | apply Wd_n | apply ex4 | apply EndQ_ret | apply EndQ_normal); (conv => lhs; simp -implicitDefEqProofs [*]) <;> exact rfl)
    | (with_reducible first | apply Wo_nil | apply W_ss | apply W_srl | apply W_rl | apply W_sblock | apply W_block | apply W_sskip | apply W_skip | apply W_sret | apply W_ret | apply W_sexit | apply W_exit | apply thenW_n | apply thenW_r | apply thenW_e | apply inB_n | apply inB_r | apply inB_e)
    | ((with_reducible apply Wo_gt); (exact rfl); ((conv => lhs; simp -implicitDefEqProofs [*]) <;> exact rfl); (conv => lhs; simp -implicitDefEqProofs [*]) <;> exact rfl)
    | ((with_reducible apply Wo_gf); (exact rfl); ((conv => lhs; simp -implicitDefEqProofs [*]) <;> exact rfl); (exact rfl))
    | ((with_reducible apply Wo_gx); (exact rfl); ((conv => lhs; simp -implicitDefEqProofs [*]) <;> exact rfl))
    | ((with_reducible apply Wo_gsT); (exact rfl); ((conv => lhs; simp -implicitDefEqProofs [*]) <;> exact rfl))
    | ((with_reducible apply Wo_gsF); (exact rfl); ((conv => lhs; simp -implicitDefEqProofs [*]) <;> exact rfl))
    | ((with_reducible apply Wd_gsT); (exact rfl); ((conv => lhs; simp -implicitDefEqProofs [*]) <;> exact rfl))
    | ((with_reducible apply Wd_gsF); (exact rfl); ((conv => lhs; simp -implicitDefEqProofs [*]) <;> exact rfl))
    | ((with_reducible first | apply W_srdl | apply W_rdl); kernel_rfl)
    | ((with_reducible apply Wd_nil); exact rfl)
    | ((with_reducible apply inB_o); rotate_left; exact rfl)
    | (intro h h'; try simp [*, -h] at h'))
  all_goals rfl
set_option maxHeartbeats 1000000 in
theorem e76_7 (x : Int) (h : U x) : (lim Tryz.prog E47 X47).dat 117 [uv x, iv 7] = some [uv (turnP x 7)] := by
  refine fnW Tryz.func117 rfl rfl bodyOk_117 rfl rtys_117 rfl ?_
  have hx0 : IntKind.u64.wrap x = x := by rw [IntKind.wrap_u64]; unfold U at h; omega
  have hh := Lib.hid h
  clear h
  repeat' (first
    | ((with_reducible first | apply Wo_u | apply Wo_n | apply ex2 | apply W_sc | apply W_c | apply Wd_u | apply Wd_n | apply ex4 | apply EndQ_ret | apply EndQ_normal); (conv => lhs; simp -implicitDefEqProofs [*]) <;> exact rfl)
    | (with_reducible first | apply Wo_nil | apply W_ss | apply W_srl | apply W_rl | apply W_sblock | apply W_block | apply W_sskip | apply W_skip | apply W_sret | apply W_ret | apply W_sexit | apply W_exit | apply thenW_n | apply thenW_r | apply thenW_e | apply inB_n | apply inB_r | apply inB_e)
    | ((with_reducible apply Wo_gt); (exact rfl); ((conv => lhs; simp -implicitDefEqProofs [*]) <;> exact rfl); (conv => lhs; simp -implicitDefEqProofs [*]) <;> exact rfl)
    | ((with_reducible apply Wo_gf); (exact rfl); ((conv => lhs; simp -implicitDefEqProofs [*]) <;> exact rfl); (exact rfl))
    | ((with_reducible apply Wo_gx); (exact rfl); ((conv => lhs; simp -implicitDefEqProofs [*]) <;> exact rfl))
    | ((with_reducible apply Wo_gsT); (exact rfl); ((conv => lhs; simp -implicitDefEqProofs [*]) <;> exact rfl))
    | ((with_reducible apply Wo_gsF); (exact rfl); ((conv => lhs; simp -implicitDefEqProofs [*]) <;> exact rfl))
    | ((with_reducible apply Wd_gsT); (exact rfl); ((conv => lhs; simp -implicitDefEqProofs [*]) <;> exact rfl))
    | ((with_reducible apply Wd_gsF); (exact rfl); ((conv => lhs; simp -implicitDefEqProofs [*]) <;> exact rfl))
    | ((with_reducible first | apply W_srdl | apply W_rdl); kernel_rfl)
    | ((with_reducible apply Wd_nil); exact rfl)
    | ((with_reducible apply inB_o); rotate_left; exact rfl)
    | (intro h h'; try simp [*, -h] at h'))
  refine W_loopS (n := 7) (fun s0 m s => ∃ i : Nat, m = 7 - i ∧ i ≤ 7 ∧ s.fr 7 = iv i ∧ s.fr 6 = .sc (.int .u64 (turnP x i)) ∧ s.fr 5 = s0.fr 5) ⟨0, by simp, by omega, by simp, by simp [turnP_zero hh.out, hx0], by simp⟩ ?_
  rintro m ⟨fr, hp⟩ ⟨i, rfl, hi, hs7, hs6, hs5⟩
  simp at hs7 hs6 hs5
  have hy := turnP_U hh.out i (by omega)
  by_cases hlt : i < 7
  · have hw := wrapN (k := i) (by omega)
    have hlI : (i : Int) < 7 := by omega
    have hst := Lib.hid (turnP_step hh.out i (by omega))
    generalize turnP x i = y at *
    have m1 : IntKind.u64.wrap (2 * y) = 2 * y := by rw [IntKind.wrap_u64]; unfold U at hy; omega
    have m2 : (2 * y).tmod 4294967296 = 2 * y % 4294967296 := Int.tmod_eq_emod_of_nonneg (by unfold U at hy; omega)
    have m3 : y.tdiv 2147483648 = y / 2147483648 := Int.tdiv_eq_ediv_of_nonneg hy.1
    have m4 : IntKind.u64.wrap (y / 2147483648) = y / 2147483648 := by rw [IntKind.wrap_u64]; unfold U at hy; omega
    have m5 : IntKind.u64.wrap (2 * y % 4294967296 + y / 2147483648) = 2 * y % 4294967296 + y / 2147483648 := by rw [IntKind.wrap_u64]; unfold U at hy; omega
    clear hy
    repeat' (first
      | ((with_reducible first | apply Wo_u | apply Wo_n | apply ex2 | apply W_sc | apply W_c | apply Wd_u | apply Wd_n | apply ex4 | apply EndQ_ret | apply EndQ_normal); (conv => lhs; simp -implicitDefEqProofs [*]) <;> exact rfl)
      | (with_reducible first | apply Wo_nil | apply W_ss | apply W_srl | apply W_rl | apply W_sblock | apply W_block | apply W_sskip | apply W_skip | apply W_sret | apply W_ret | apply W_sexit | apply W_exit | apply thenW_n | apply thenW_r | apply thenW_e | apply inB_n | apply inB_r | apply inB_e)
      | ((with_reducible apply Wo_gt); (exact rfl); ((conv => lhs; simp -implicitDefEqProofs [*]) <;> exact rfl); (conv => lhs; simp -implicitDefEqProofs [*]) <;> exact rfl)
      | ((with_reducible apply Wo_gf); (exact rfl); ((conv => lhs; simp -implicitDefEqProofs [*]) <;> exact rfl); (exact rfl))
      | ((with_reducible apply Wo_gx); (exact rfl); ((conv => lhs; simp -implicitDefEqProofs [*]) <;> exact rfl))
      | ((with_reducible apply Wo_gsT); (exact rfl); ((conv => lhs; simp -implicitDefEqProofs [*]) <;> exact rfl))
      | ((with_reducible apply Wo_gsF); (exact rfl); ((conv => lhs; simp -implicitDefEqProofs [*]) <;> exact rfl))
      | ((with_reducible apply Wd_gsT); (exact rfl); ((conv => lhs; simp -implicitDefEqProofs [*]) <;> exact rfl))
      | ((with_reducible apply Wd_gsF); (exact rfl); ((conv => lhs; simp -implicitDefEqProofs [*]) <;> exact rfl))
      | ((with_reducible first | apply W_srdl | apply W_rdl); kernel_rfl)
      | ((with_reducible apply Wd_nil); exact rfl)
      | ((with_reducible apply inB_o); rotate_left; exact rfl)
      | (intro h h'; try simp [*, -h] at h'))
    all_goals exact ⟨_, by omega, i + 1, rfl, hlt, by simp [*], by rw [← hst.out]; simp [*], by simp [*]⟩
  · obtain rfl : i = 7 := by omega
    have m1 : IntKind.u32.wrap (turnP x 7) = turnP x 7 := by rw [IntKind.wrap_u32]; unfold U at hy; omega
    clear hy
    repeat' (first
      | ((with_reducible first | apply Wo_u | apply Wo_n | apply ex2 | apply W_sc | apply W_c | apply Wd_u | apply Wd_n | apply ex4 | apply EndQ_ret | apply EndQ_normal); (conv => lhs; simp -implicitDefEqProofs [*]) <;> exact rfl)
      | (with_reducible first | apply Wo_nil | apply W_ss | apply W_srl | apply W_rl | apply W_sblock | apply W_block | apply W_sskip | apply W_skip | apply W_sret | apply W_ret | apply W_sexit | apply W_exit | apply thenW_n | apply thenW_r | apply thenW_e | apply inB_n | apply inB_r | apply inB_e)
      | ((with_reducible apply Wo_gt); (exact rfl); ((conv => lhs; simp -implicitDefEqProofs [*]) <;> exact rfl); (conv => lhs; simp -implicitDefEqProofs [*]) <;> exact rfl)
      | ((with_reducible apply Wo_gf); (exact rfl); ((conv => lhs; simp -implicitDefEqProofs [*]) <;> exact rfl); (exact rfl))
      | ((with_reducible apply Wo_gx); (exact rfl); ((conv => lhs; simp -implicitDefEqProofs [*]) <;> exact rfl))
      | ((with_reducible apply Wo_gsT); (exact rfl); ((conv => lhs; simp -implicitDefEqProofs [*]) <;> exact rfl))
      | ((with_reducible apply Wo_gsF); (exact rfl); ((conv => lhs; simp -implicitDefEqProofs [*]) <;> exact rfl))
      | ((with_reducible apply Wd_gsT); (exact rfl); ((conv => lhs; simp -implicitDefEqProofs [*]) <;> exact rfl))
      | ((with_reducible apply Wd_gsF); (exact rfl); ((conv => lhs; simp -implicitDefEqProofs [*]) <;> exact rfl))
      | ((with_reducible first | apply W_srdl | apply W_rdl); kernel_rfl)
      | ((with_reducible apply Wd_nil); exact rfl)
      | ((with_reducible apply inB_o); rotate_left; exact rfl)
      | (intro h h'; try simp [*, -h] at h'))
    all_goals rfl
set_option maxHeartbeats 1000000 in
theorem e78_9 (x : Int) (h : U x) : (lim Tryz.prog E47 X47).dat 110 [uv x, iv 9] = some [uv (turnP x 9)] := by
  refine fnW Tryz.func110 rfl rfl bodyOk_110 rfl rtys_110 rfl ?_
  have h88 := e88_9 x h
  clear h
  repeat' (first
    | ((with_reducible first | apply Wo_u | apply Wo_n | apply ex2 | apply W_sc | apply W_c | apply Wd_u | apply Wd_n | apply ex4 | apply EndQ_ret | apply EndQ_normal); (conv => lhs; simp -implicitDefEqProofs [*]) <;> exact rfl)
    | (with_reducible first | apply Wo_nil | apply W_ss | apply W_srl | apply W_rl | apply W_sblock | apply W_block | apply W_sskip | apply W_skip | apply W_sret | apply W_ret | apply W_sexit | apply W_exit | apply thenW_n | apply thenW_r | apply thenW_e | apply inB_n | apply inB_r | apply inB_e)
    | ((with_reducible apply Wo_gt); (exact rfl); ((conv => lhs; simp -implicitDefEqProofs [*]) <;> exact rfl); (conv => lhs; simp -implicitDefEqProofs [*]) <;> exact rfl)
    | ((with_reducible apply Wo_gf); (exact rfl); ((conv => lhs; simp -implicitDefEqProofs [*]) <;> exact rfl); (exact rfl))
    | ((with_reducible apply Wo_gx); (exact rfl); ((conv => lhs; simp -implicitDefEqProofs [*]) <;> exact rfl))
    | ((with_reducible apply Wo_gsT); (exact rfl); ((conv => lhs; simp -implicitDefEqProofs [*]) <;> exact rfl))
    | ((with_reducible apply Wo_gsF); (exact rfl); ((conv => lhs; simp -implicitDefEqProofs [*]) <;> exact rfl))
    | ((with_reducible apply Wd_gsT); (exact rfl); ((conv => lhs; simp -implicitDefEqProofs [*]) <;> exact rfl))
    | ((with_reducible apply Wd_gsF); (exact rfl); ((conv => lhs; simp -implicitDefEqProofs [*]) <;> exact rfl))
    | ((with_reducible first | apply W_srdl | apply W_rdl); kernel_rfl)
    | ((with_reducible apply Wd_nil); exact rfl)
    | ((with_reducible apply inB_o); rotate_left; exact rfl)
    | (intro h h'; try simp [*, -h] at h'))
  all_goals rfl
set_option maxHeartbeats 1000000 in
theorem e76_9 (x : Int) (h : U x) : (lim Tryz.prog E47 X47).dat 117 [uv x, iv 9] = some [uv (turnP x 9)] := by
  refine fnW Tryz.func117 rfl rfl bodyOk_117 rfl rtys_117 rfl ?_
  have hx0 : IntKind.u64.wrap x = x := by rw [IntKind.wrap_u64]; unfold U at h; omega
  have hh := Lib.hid h
  clear h
  repeat' (first
    | ((with_reducible first | apply Wo_u | apply Wo_n | apply ex2 | apply W_sc | apply W_c | apply Wd_u | apply Wd_n | apply ex4 | apply EndQ_ret | apply EndQ_normal); (conv => lhs; simp -implicitDefEqProofs [*]) <;> exact rfl)
    | (with_reducible first | apply Wo_nil | apply W_ss | apply W_srl | apply W_rl | apply W_sblock | apply W_block | apply W_sskip | apply W_skip | apply W_sret | apply W_ret | apply W_sexit | apply W_exit | apply thenW_n | apply thenW_r | apply thenW_e | apply inB_n | apply inB_r | apply inB_e)
    | ((with_reducible apply Wo_gt); (exact rfl); ((conv => lhs; simp -implicitDefEqProofs [*]) <;> exact rfl); (conv => lhs; simp -implicitDefEqProofs [*]) <;> exact rfl)
    | ((with_reducible apply Wo_gf); (exact rfl); ((conv => lhs; simp -implicitDefEqProofs [*]) <;> exact rfl); (exact rfl))
    | ((with_reducible apply Wo_gx); (exact rfl); ((conv => lhs; simp -implicitDefEqProofs [*]) <;> exact rfl))
    | ((with_reducible apply Wo_gsT); (exact rfl); ((conv => lhs; simp -implicitDefEqProofs [*]) <;> exact rfl))
    | ((with_reducible apply Wo_gsF); (exact rfl); ((conv => lhs; simp -implicitDefEqProofs [*]) <;> exact rfl))
    | ((with_reducible apply Wd_gsT); (exact rfl); ((conv => lhs; simp -implicitDefEqProofs [*]) <;> exact rfl))
    | ((with_reducible apply Wd_gsF); (exact rfl); ((conv => lhs; simp -implicitDefEqProofs [*]) <;> exact rfl))
    | ((with_reducible first | apply W_srdl | apply W_rdl); kernel_rfl)
    | ((with_reducible apply Wd_nil); exact rfl)
    | ((with_reducible apply inB_o); rotate_left; exact rfl)
    | (intro h h'; try simp [*, -h] at h'))
  refine W_loopS (n := 9) (fun s0 m s => ∃ i : Nat, m = 9 - i ∧ i ≤ 9 ∧ s.fr 7 = iv i ∧ s.fr 6 = .sc (.int .u64 (turnP x i)) ∧ s.fr 5 = s0.fr 5) ⟨0, by simp, by omega, by simp, by simp [turnP_zero hh.out, hx0], by simp⟩ ?_
  rintro m ⟨fr, hp⟩ ⟨i, rfl, hi, hs7, hs6, hs5⟩
  simp at hs7 hs6 hs5
  have hy := turnP_U hh.out i (by omega)
  by_cases hlt : i < 9
  · have hw := wrapN (k := i) (by omega)
    have hlI : (i : Int) < 9 := by omega
    have hst := Lib.hid (turnP_step hh.out i (by omega))
    generalize turnP x i = y at *
    have m1 : IntKind.u64.wrap (2 * y) = 2 * y := by rw [IntKind.wrap_u64]; unfold U at hy; omega
    have m2 : (2 * y).tmod 4294967296 = 2 * y % 4294967296 := Int.tmod_eq_emod_of_nonneg (by unfold U at hy; omega)
    have m3 : y.tdiv 2147483648 = y / 2147483648 := Int.tdiv_eq_ediv_of_nonneg hy.1
    have m4 : IntKind.u64.wrap (y / 2147483648) = y / 2147483648 := by rw [IntKind.wrap_u64]; unfold U at hy; omega
    have m5 : IntKind.u64.wrap (2 * y % 4294967296 + y / 2147483648) = 2 * y % 4294967296 + y / 2147483648 := by rw [IntKind.wrap_u64]; unfold U at hy; omega
    clear hy
    repeat' (first
      | ((with_reducible first | apply Wo_u | apply Wo_n | apply ex2 | apply W_sc | apply W_c | apply Wd_u | apply Wd_n | apply ex4 | apply EndQ_ret | apply EndQ_normal); (conv => lhs; simp -implicitDefEqProofs [*]) <;> exact rfl)
      | (with_reducible first | apply Wo_nil | apply W_ss | apply W_srl | apply W_rl | apply W_sblock | apply W_block | apply W_sskip | apply W_skip | apply W_sret | apply W_ret | apply W_sexit | apply W_exit | apply thenW_n | apply thenW_r | apply thenW_e | apply inB_n | apply inB_r | apply inB_e)
      | ((with_reducible apply Wo_gt); (exact rfl); ((conv => lhs; simp -implicitDefEqProofs [*]) <;> exact rfl); (conv => lhs; simp -implicitDefEqProofs [*]) <;> exact rfl)
      | ((with_reducible apply Wo_gf); (exact rfl); ((conv => lhs; simp -implicitDefEqProofs [*]) <;> exact rfl); (exact rfl))
      | ((with_reducible apply Wo_gx); (exact rfl); ((conv => lhs; simp -implicitDefEqProofs [*]) <;> exact rfl))
      | ((with_reducible apply Wo_gsT); (exact rfl); ((conv => lhs; simp -implicitDefEqProofs [*]) <;> exact rfl))
      | ((with_reducible apply Wo_gsF); (exact rfl); ((conv => lhs; simp -implicitDefEqProofs [*]) <;> exact rfl))
      | ((with_reducible apply Wd_gsT); (exact rfl); ((conv => lhs; simp -implicitDefEqProofs [*]) <;> exact rfl))
      | ((with_reducible apply Wd_gsF); (exact rfl); ((conv => lhs; simp -implicitDefEqProofs [*]) <;> exact rfl))
      | ((with_reducible first | apply W_srdl | apply W_rdl); kernel_rfl)
      | ((with_reducible apply Wd_nil); exact rfl)
      | ((with_reducible apply inB_o); rotate_left; exact rfl)
      | (intro h h'; try simp [*, -h] at h'))
    all_goals exact ⟨_, by omega, i + 1, rfl, hlt, by simp [*], by rw [← hst.out]; simp [*], by simp [*]⟩
  · obtain rfl : i = 9 := by omega
    have m1 : IntKind.u32.wrap (turnP x 9) = turnP x 9 := by rw [IntKind.wrap_u32]; unfold U at hy; omega
    clear hy
    repeat' (first
      | ((with_reducible first | apply Wo_u | apply Wo_n | apply ex2 | apply W_sc | apply W_c | apply Wd_u | apply Wd_n | apply ex4 | apply EndQ_ret | apply EndQ_normal); (conv => lhs; simp -implicitDefEqProofs [*]) <;> exact rfl)
      | (with_reducible first | apply Wo_nil | apply W_ss | apply W_srl | apply W_rl | apply W_sblock | apply W_block | apply W_sskip | apply W_skip | apply W_sret | apply W_ret | apply W_sexit | apply W_exit | apply thenW_n | apply thenW_r | apply thenW_e | apply inB_n | apply inB_r | apply inB_e)
      | ((with_reducible apply Wo_gt); (exact rfl); ((conv => lhs; simp -implicitDefEqProofs [*]) <;> exact rfl); (conv => lhs; simp -implicitDefEqProofs [*]) <;> exact rfl)
      | ((with_reducible apply Wo_gf); (exact rfl); ((conv => lhs; simp -implicitDefEqProofs [*]) <;> exact rfl); (exact rfl))
      | ((with_reducible apply Wo_gx); (exact rfl); ((conv => lhs; simp -implicitDefEqProofs [*]) <;> exact rfl))
      | ((with_reducible apply Wo_gsT); (exact rfl); ((conv => lhs; simp -implicitDefEqProofs [*]) <;> exact rfl))
      | ((with_reducible apply Wo_gsF); (exact rfl); ((conv => lhs; simp -implicitDefEqProofs [*]) <;> exact rfl))
      | ((with_reducible apply Wd_gsT); (exact rfl); ((conv => lhs; simp -implicitDefEqProofs [*]) <;> exact rfl))
      | ((with_reducible apply Wd_gsF); (exact rfl); ((conv => lhs; simp -implicitDefEqProofs [*]) <;> exact rfl))
      | ((with_reducible first | apply W_srdl | apply W_rdl); kernel_rfl)
      | ((with_reducible apply Wd_nil); exact rfl)
      | ((with_reducible apply inB_o); rotate_left; exact rfl)
      | (intro h h'; try simp [*, -h] at h'))
    all_goals rfl
set_option maxHeartbeats 1000000 in
theorem e78_13 (x : Int) (h : U x) : (lim Tryz.prog E47 X47).dat 110 [uv x, iv 13] = some [uv (turnP x 13)] := by
  refine fnW Tryz.func110 rfl rfl bodyOk_110 rfl rtys_110 rfl ?_
  have h88 := e88_13 x h
  clear h
  repeat' (first
    | ((with_reducible first | apply Wo_u | apply Wo_n | apply ex2 | apply W_sc | apply W_c | apply Wd_u | apply Wd_n | apply ex4 | apply EndQ_ret | apply EndQ_normal); (conv => lhs; simp -implicitDefEqProofs [*]) <;> exact rfl)
    | (with_reducible first | apply Wo_nil | apply W_ss | apply W_srl | apply W_rl | apply W_sblock | apply W_block | apply W_sskip | apply W_skip | apply W_sret | apply W_ret | apply W_sexit | apply W_exit | apply thenW_n | apply thenW_r | apply thenW_e | apply inB_n | apply inB_r | apply inB_e)
    | ((with_reducible apply Wo_gt); (exact rfl); ((conv => lhs; simp -implicitDefEqProofs [*]) <;> exact rfl); (conv => lhs; simp -implicitDefEqProofs [*]) <;> exact rfl)
    | ((with_reducible apply Wo_gf); (exact rfl); ((conv => lhs; simp -implicitDefEqProofs [*]) <;> exact rfl); (exact rfl))
    | ((with_reducible apply Wo_gx); (exact rfl); ((conv => lhs; simp -implicitDefEqProofs [*]) <;> exact rfl))
    | ((with_reducible apply Wo_gsT); (exact rfl); ((conv => lhs; simp -implicitDefEqProofs [*]) <;> exact rfl))
    | ((with_reducible apply Wo_gsF); (exact rfl); ((conv => lhs; simp -implicitDefEqProofs [*]) <;> exact rfl))
    | ((with_reducible apply Wd_gsT); (exact rfl); ((conv => lhs; simp -implicitDefEqProofs [*]) <;> exact rfl))
    | ((with_reducible apply Wd_gsF); (exact rfl); ((conv => lhs; simp -implicitDefEqProofs [*]) <;> exact rfl))
    | ((with_reducible first | apply W_srdl | apply W_rdl); kernel_rfl)
    | ((with_reducible apply Wd_nil); exact rfl)
    | ((with_reducible apply inB_o); rotate_left; exact rfl)
    | (intro h h'; try simp [*, -h] at h'))
  all_goals rfl
set_option maxHeartbeats 1000000 in
theorem e76_13 (x : Int) (h : U x) : (lim Tryz.prog E47 X47).dat 117 [uv x, iv 13] = some [uv (turnP x 13)] := by
  refine fnW Tryz.func117 rfl rfl bodyOk_117 rfl rtys_117 rfl ?_
  have hx0 : IntKind.u64.wrap x = x := by rw [IntKind.wrap_u64]; unfold U at h; omega
  have hh := Lib.hid h
  clear h
  repeat' (first
    | ((with_reducible first | apply Wo_u | apply Wo_n | apply ex2 | apply W_sc | apply W_c | apply Wd_u | apply Wd_n | apply ex4 | apply EndQ_ret | apply EndQ_normal); (conv => lhs; simp -implicitDefEqProofs [*]) <;> exact rfl)
    | (with_reducible first | apply Wo_nil | apply W_ss | apply W_srl | apply W_rl | apply W_sblock | apply W_block | apply W_sskip | apply W_skip | apply W_sret | apply W_ret | apply W_sexit | apply W_exit | apply thenW_n | apply thenW_r | apply thenW_e | apply inB_n | apply inB_r | apply inB_e)
    | ((with_reducible apply Wo_gt); (exact rfl); ((conv => lhs; simp -implicitDefEqProofs [*]) <;> exact rfl); (conv => lhs; simp -implicitDefEqProofs [*]) <;> exact rfl)
    | ((with_reducible apply Wo_gf); (exact rfl); ((conv => lhs; simp -implicitDefEqProofs [*]) <;> exact rfl); (exact rfl))
    | ((with_reducible apply Wo_gx); (exact rfl); ((conv => lhs; simp -implicitDefEqProofs [*]) <;> exact rfl))
    | ((with_reducible apply Wo_gsT); (exact rfl); ((conv => lhs; simp -implicitDefEqProofs [*]) <;> exact rfl))
    | ((with_reducible apply Wo_gsF); (exact rfl); ((conv => lhs; simp -implicitDefEqProofs [*]) <;> exact rfl))
    | ((with_reducible apply Wd_gsT); (exact rfl); ((conv => lhs; simp -implicitDefEqProofs [*]) <;> exact rfl))
    | ((with_reducible apply Wd_gsF); (exact rfl); ((conv => lhs; simp -implicitDefEqProofs [*]) <;> exact rfl))
    | ((with_reducible first | apply W_srdl | apply W_rdl); kernel_rfl)
    | ((with_reducible apply Wd_nil); exact rfl)
    | ((with_reducible apply inB_o); rotate_left; exact rfl)
    | (intro h h'; try simp [*, -h] at h'))
  refine W_loopS (n := 13) (fun s0 m s => ∃ i : Nat, m = 13 - i ∧ i ≤ 13 ∧ s.fr 7 = iv i ∧ s.fr 6 = .sc (.int .u64 (turnP x i)) ∧ s.fr 5 = s0.fr 5) ⟨0, by simp, by omega, by simp, by simp [turnP_zero hh.out, hx0], by simp⟩ ?_
  rintro m ⟨fr, hp⟩ ⟨i, rfl, hi, hs7, hs6, hs5⟩
  simp at hs7 hs6 hs5
  have hy := turnP_U hh.out i (by omega)
  by_cases hlt : i < 13
  · have hw := wrapN (k := i) (by omega)
    have hlI : (i : Int) < 13 := by omega
    have hst := Lib.hid (turnP_step hh.out i (by omega))
    generalize turnP x i = y at *
    have m1 : IntKind.u64.wrap (2 * y) = 2 * y := by rw [IntKind.wrap_u64]; unfold U at hy; omega
    have m2 : (2 * y).tmod 4294967296 = 2 * y % 4294967296 := Int.tmod_eq_emod_of_nonneg (by unfold U at hy; omega)
    have m3 : y.tdiv 2147483648 = y / 2147483648 := Int.tdiv_eq_ediv_of_nonneg hy.1
    have m4 : IntKind.u64.wrap (y / 2147483648) = y / 2147483648 := by rw [IntKind.wrap_u64]; unfold U at hy; omega
    have m5 : IntKind.u64.wrap (2 * y % 4294967296 + y / 2147483648) = 2 * y % 4294967296 + y / 2147483648 := by rw [IntKind.wrap_u64]; unfold U at hy; omega
    clear hy
    repeat' (first
      | ((with_reducible first | apply Wo_u | apply Wo_n | apply ex2 | apply W_sc | apply W_c | apply Wd_u | apply Wd_n | apply ex4 | apply EndQ_ret | apply EndQ_normal); (conv => lhs; simp -implicitDefEqProofs [*]) <;> exact rfl)
      | (with_reducible first | apply Wo_nil | apply W_ss | apply W_srl | apply W_rl | apply W_sblock | apply W_block | apply W_sskip | apply W_skip | apply W_sret | apply W_ret | apply W_sexit | apply W_exit | apply thenW_n | apply thenW_r | apply thenW_e | apply inB_n | apply inB_r | apply inB_e)
      | ((with_reducible apply Wo_gt); (exact rfl); ((conv => lhs; simp -implicitDefEqProofs [*]) <;> exact rfl); (conv => lhs; simp -implicitDefEqProofs [*]) <;> exact rfl)
      | ((with_reducible apply Wo_gf); (exact rfl); ((conv => lhs; simp -implicitDefEqProofs [*]) <;> exact rfl); (exact rfl))
      | ((with_reducible apply Wo_gx); (exact rfl); ((conv => lhs; simp -implicitDefEqProofs [*]) <;> exact rfl))
      | ((with_reducible apply Wo_gsT); (exact rfl); ((conv => lhs; simp -implicitDefEqProofs [*]) <;> exact rfl))
      | ((with_reducible apply Wo_gsF); (exact rfl); ((conv => lhs; simp -implicitDefEqProofs [*]) <;> exact rfl))
      | ((with_reducible apply Wd_gsT); (exact rfl); ((conv => lhs; simp -implicitDefEqProofs [*]) <;> exact rfl))
      | ((with_reducible apply Wd_gsF); (exact rfl); ((conv => lhs; simp -implicitDefEqProofs [*]) <;> exact rfl))
      | ((with_reducible first | apply W_srdl | apply W_rdl); kernel_rfl)
      | ((with_reducible apply Wd_nil); exact rfl)
      | ((with_reducible apply inB_o); rotate_left; exact rfl)
      | (intro h h'; try simp [*, -h] at h'))
    all_goals exact ⟨_, by omega, i + 1, rfl, hlt, by simp [*], by rw [← hst.out]; simp [*], by simp [*]⟩
  · obtain rfl : i = 13 := by omega
    have m1 : IntKind.u32.wrap (turnP x 13) = turnP x 13 := by rw [IntKind.wrap_u32]; unfold U at hy; omega
    clear hy
    repeat' (first
      | ((with_reducible first | apply Wo_u | apply Wo_n | apply ex2 | apply W_sc | apply W_c | apply Wd_u | apply Wd_n | apply ex4 | apply EndQ_ret | apply EndQ_normal); (conv => lhs; simp -implicitDefEqProofs [*]) <;> exact rfl)
      | (with_reducible first | apply Wo_nil | apply W_ss | apply W_srl | apply W_rl | apply W_sblock | apply W_block | apply W_sskip | apply W_skip | apply W_sret | apply W_ret | apply W_sexit | apply W_exit | apply thenW_n | apply thenW_r | apply thenW_e | apply inB_n | apply inB_r | apply inB_e)
      | ((with_reducible apply Wo_gt); (exact rfl); ((conv => lhs; simp -implicitDefEqProofs [*]) <;> exact rfl); (conv => lhs; simp -implicitDefEqProofs [*]) <;> exact rfl)
      | ((with_reducible apply Wo_gf); (exact rfl); ((conv => lhs; simp -implicitDefEqProofs [*]) <;> exact rfl); (exact rfl))
      | ((with_reducible apply Wo_gx); (exact rfl); ((conv => lhs; simp -implicitDefEqProofs [*]) <;> exact rfl))
      | ((with_reducible apply Wo_gsT); (exact rfl); ((conv => lhs; simp -implicitDefEqProofs [*]) <;> exact rfl))
      | ((with_reducible apply Wo_gsF); (exact rfl); ((conv => lhs; simp -implicitDefEqProofs [*]) <;> exact rfl))
      | ((with_reducible apply Wd_gsT); (exact rfl); ((conv => lhs; simp -implicitDefEqProofs [*]) <;> exact rfl))
      | ((with_reducible apply Wd_gsF); (exact rfl); ((conv => lhs; simp -implicitDefEqProofs [*]) <;> exact rfl))
      | ((with_reducible first | apply W_srdl | apply W_rdl); kernel_rfl)
      | ((with_reducible apply Wd_nil); exact rfl)
      | ((with_reducible apply inB_o); rotate_left; exact rfl)
      | (intro h h'; try simp [*, -h] at h'))
    all_goals rfl
set_option maxHeartbeats 1000000 in
theorem e78_18 (x : Int) (h : U x) : (lim Tryz.prog E47 X47).dat 110 [uv x, iv 18] = some [uv (turnP x 18)] := by
  refine fnW Tryz.func110 rfl rfl bodyOk_110 rfl rtys_110 rfl ?_
  have h88 := e88_18 x h
  clear h
  repeat' (first
    | ((with_reducible first | apply Wo_u | apply Wo_n | apply ex2 | apply W_sc | apply W_c | apply Wd_u | apply Wd_n | apply ex4 | apply EndQ_ret | apply EndQ_normal); (conv => lhs; simp -implicitDefEqProofs [*]) <;> exact rfl)
    | (with_reducible first | apply Wo_nil | apply W_ss | apply W_srl | apply W_rl | apply W_sblock | apply W_block | apply W_sskip | apply W_skip | apply W_sret | apply W_ret | apply W_sexit | apply W_exit | apply thenW_n | apply thenW_r | apply thenW_e | apply inB_n | apply inB_r | apply inB_e)
    | ((with_reducible apply Wo_gt); (exact rfl); ((conv => lhs; simp -implicitDefEqProofs [*]) <;> exact rfl); (conv => lhs; simp -implicitDefEqProofs [*]) <;> exact rfl)
    | ((with_reducible apply Wo_gf); (exact rfl); ((conv => lhs; simp -implicitDefEqProofs [*]) <;> exact rfl); (exact rfl))
    | ((with_reducible apply Wo_gx); (exact rfl); ((conv => lhs; simp -implicitDefEqProofs [*]) <;> exact rfl))
    | ((with_reducible apply Wo_gsT); (exact rfl); ((conv => lhs; simp -implicitDefEqProofs [*]) <;> exact rfl))
    | ((with_reducible apply Wo_gsF); (exact rfl); ((conv => lhs; simp -implicitDefEqProofs [*]) <;> exact rfl))
    | ((with_reducible apply Wd_gsT); (exact rfl); ((conv => lhs; simp -implicitDefEqProofs [*]) <;> exact rfl))
    | ((with_reducible apply Wd_gsF); (exact rfl); ((conv => lhs; simp -implicitDefEqProofs [*]) <;> exact rfl))
    | ((with_reducible first | apply W_srdl | apply W_rdl); kernel_rfl)
    | ((with_reducible apply Wd_nil); exact rfl)
    | ((with_reducible apply inB_o); rotate_left; exact rfl)
    | (intro h h'; try simp [*, -h] at h'))
  all_goals rfl
set_option maxHeartbeats 1000000 in
theorem e76_18 (x : Int) (h : U x) : (lim Tryz.prog E47 X47).dat 117 [uv x, iv 18] = some [uv (turnP x 18)] := by
  refine fnW Tryz.func117 rfl rfl bodyOk_117 rfl rtys_117 rfl ?_
  have hx0 : IntKind.u64.wrap x = x := by rw [IntKind.wrap_u64]; unfold U at h; omega
  have hh := Lib.hid h
  clear h
  repeat' (first
    | ((with_reducible first | apply Wo_u | apply Wo_n | apply ex2 | apply W_sc | apply W_c | apply Wd_u | apply Wd_n | apply ex4 | apply EndQ_ret | apply EndQ_normal); (conv => lhs; simp -implicitDefEqProofs [*]) <;> exact rfl)
    | (with_reducible first | apply Wo_nil | apply W_ss | apply W_srl | apply W_rl | apply W_sblock | apply W_block | apply W_sskip | apply W_skip | apply W_sret | apply W_ret | apply W_sexit | apply W_exit | apply thenW_n | apply thenW_r | apply thenW_e | apply inB_n | apply inB_r | apply inB_e)
    | ((with_reducible apply Wo_gt); (exact rfl); ((conv => lhs; simp -implicitDefEqProofs [*]) <;> exact rfl); (conv => lhs; simp -implicitDefEqProofs [*]) <;> exact rfl)
    | ((with_reducible apply Wo_gf); (exact rfl); ((conv => lhs; simp -implicitDefEqProofs [*]) <;> exact rfl); (exact rfl))
    | ((with_reducible apply Wo_gx); (exact rfl); ((conv => lhs; simp -implicitDefEqProofs [*]) <;> exact rfl))
    | ((with_reducible apply Wo_gsT); (exact rfl); ((conv => lhs; simp -implicitDefEqProofs [*]) <;> exact rfl))
    | ((with_reducible apply Wo_gsF); (exact rfl); ((conv => lhs; simp -implicitDefEqProofs [*]) <;> exact rfl))
    | ((with_reducible apply Wd_gsT); (exact rfl); ((conv => lhs; simp -implicitDefEqProofs [*]) <;> exact rfl))
    | ((with_reducible apply Wd_gsF); (exact rfl); ((conv => lhs; simp -implicitDefEqProofs [*]) <;> exact rfl))
    | ((with_reducible first | apply W_srdl | apply W_rdl); kernel_rfl)
    | ((with_reducible apply Wd_nil); exact rfl)
    | ((with_reducible apply inB_o); rotate_left; exact rfl)
    | (intro h h'; try simp [*, -h] at h'))
  refine W_loopS (n := 18) (fun s0 m s => ∃ i : Nat, m = 18 - i ∧ i ≤ 18 ∧ s.fr 7 = iv i ∧ s.fr 6 = .sc (.int .u64 (turnP x i)) ∧ s.fr 5 = s0.fr 5) ⟨0, by simp, by omega, by simp, by simp [turnP_zero hh.out, hx0], by simp⟩ ?_
  rintro m ⟨fr, hp⟩ ⟨i, rfl, hi, hs7, hs6, hs5⟩
  simp at hs7 hs6 hs5
  have hy := turnP_U hh.out i (by omega)
  by_cases hlt : i < 18
  · have hw := wrapN (k := i) (by omega)
    have hlI : (i : Int) < 18 := by omega
    have hst := Lib.hid (turnP_step hh.out i (by omega))
    generalize turnP x i = y at *
    have m1 : IntKind.u64.wrap (2 * y) = 2 * y := by rw [IntKind.wrap_u64]; unfold U at hy; omega
    have m2 : (2 * y).tmod 4294967296 = 2 * y % 4294967296 := Int.tmod_eq_emod_of_nonneg (by unfold U at hy; omega)
    have m3 : y.tdiv 2147483648 = y / 2147483648 := Int.tdiv_eq_ediv_of_nonneg hy.1
    have m4 : IntKind.u64.wrap (y / 2147483648) = y / 2147483648 := by rw [IntKind.wrap_u64]; unfold U at hy; omega
    have m5 : IntKind.u64.wrap (2 * y % 4294967296 + y / 2147483648) = 2 * y % 4294967296 + y / 2147483648 := by rw [IntKind.wrap_u64]; unfold U at hy; omega
    clear hy
    repeat' (first
      | ((with_reducible first | apply Wo_u | apply Wo_n | apply ex2 | apply W_sc | apply W_c | apply Wd_u | apply Wd_n | apply ex4 | apply EndQ_ret | apply EndQ_normal); (conv => lhs; simp -implicitDefEqProofs [*]) <;> exact rfl)
      | (with_reducible first | apply Wo_nil | apply W_ss | apply W_srl | apply W_rl | apply W_sblock | apply W_block | apply W_sskip | apply W_skip | apply W_sret | apply W_ret | apply W_sexit | apply W_exit | apply thenW_n | apply thenW_r | apply thenW_e | apply inB_n | apply inB_r | apply inB_e)
      | ((with_reducible apply Wo_gt); (exact rfl); ((conv => lhs; simp -implicitDefEqProofs [*]) <;> exact rfl); (conv => lhs; simp -implicitDefEqProofs [*]) <;> exact rfl)
      | ((with_reducible apply Wo_gf); (exact rfl); ((conv => lhs; simp -implicitDefEqProofs [*]) <;> exact rfl); (exact rfl))
      | ((with_reducible apply Wo_gx); (exact rfl); ((conv => lhs; simp -implicitDefEqProofs [*]) <;> exact rfl))
      | ((with_reducible apply Wo_gsT); (exact rfl); ((conv => lhs; simp -implicitDefEqProofs [*]) <;> exact rfl))
      | ((with_reducible apply Wo_gsF); (exact rfl); ((conv => lhs; simp -implicitDefEqProofs [*]) <;> exact rfl))
      | ((with_reducible apply Wd_gsT); (exact rfl); ((conv => lhs; simp -implicitDefEqProofs [*]) <;> exact rfl))
      | ((with_reducible apply Wd_gsF); (exact rfl); ((conv => lhs; simp -implicitDefEqProofs [*]) <;> exact rfl))
      | ((with_reducible first | apply W_srdl | apply W_rdl); kernel_rfl)
      | ((with_reducible apply Wd_nil); exact rfl)
      | ((with_reducible apply inB_o); rotate_left; exact rfl)
      | (intro h h'; try simp [*, -h] at h'))
    all_goals exact ⟨_, by omega, i + 1, rfl, hlt, by simp [*], by rw [← hst.out]; simp [*], by simp [*]⟩
  · obtain rfl : i = 18 := by omega
    have m1 : IntKind.u32.wrap (turnP x 18) = turnP x 18 := by rw [IntKind.wrap_u32]; unfold U at hy; omega
    clear hy
    repeat' (first
      | ((with_reducible first | apply Wo_u | apply Wo_n | apply ex2 | apply W_sc | apply W_c | apply Wd_u | apply Wd_n | apply ex4 | apply EndQ_ret | apply EndQ_normal); (conv => lhs; simp -implicitDefEqProofs [*]) <;> exact rfl)
      | (with_reducible first | apply Wo_nil | apply W_ss | apply W_srl | apply W_rl | apply W_sblock | apply W_block | apply W_sskip | apply W_skip | apply W_sret | apply W_ret | apply W_sexit | apply W_exit | apply thenW_n | apply thenW_r | apply thenW_e | apply inB_n | apply inB_r | apply inB_e)
      | ((with_reducible apply Wo_gt); (exact rfl); ((conv => lhs; simp -implicitDefEqProofs [*]) <;> exact rfl); (conv => lhs; simp -implicitDefEqProofs [*]) <;> exact rfl)
      | ((with_reducible apply Wo_gf); (exact rfl); ((conv => lhs; simp -implicitDefEqProofs [*]) <;> exact rfl); (exact rfl))
      | ((with_reducible apply Wo_gx); (exact rfl); ((conv => lhs; simp -implicitDefEqProofs [*]) <;> exact rfl))
      | ((with_reducible apply Wo_gsT); (exact rfl); ((conv => lhs; simp -implicitDefEqProofs [*]) <;> exact rfl))
      | ((with_reducible apply Wo_gsF); (exact rfl); ((conv => lhs; simp -implicitDefEqProofs [*]) <;> exact rfl))
      | ((with_reducible apply Wd_gsT); (exact rfl); ((conv => lhs; simp -implicitDefEqProofs [*]) <;> exact rfl))
      | ((with_reducible apply Wd_gsF); (exact rfl); ((conv => lhs; simp -implicitDefEqProofs [*]) <;> exact rfl))
      | ((with_reducible first | apply W_srdl | apply W_rdl); kernel_rfl)
      | ((with_reducible apply Wd_nil); exact rfl)
      | ((with_reducible apply inB_o); rotate_left; exact rfl)
      | (intro h h'; try simp [*, -h] at h'))
    all_goals rfl
end Go.Proofs.YtaeeffddinppeaaGreatDoor

namespace Go.Proofs.YtaeeffddinppeaaGreatDoor
open Go Go.Ab
attribute [-simp] Prog.bind getCs putCs
attribute [local simp ↓] run_bind
attribute [local simp ↓] runF_bind
attribute [local simp] run_getCsN runF_getCsN facetsC putCs_one run_putCsN runF_putCsN facetsW facetsH
attribute [local simp ↓] evInt_xor evInt_or evInt_and64
@[simp] theorem wrap_3 : IntKind.i64.wrap 3 = 3 := by decide +kernel
@[simp] theorem wrap_4 : IntKind.i64.wrap 4 = 4 := by decide +kernel
@[simp] theorem wrap_5 : IntKind.i64.wrap 5 = 5 := by decide +kernel
@[simp] theorem wrap_6 : IntKind.i64.wrap 6 = 6 := by decide +kernel
@[simp] theorem wrap_7 : IntKind.i64.wrap 7 = 7 := by decide +kernel
@[simp] theorem wrap_8 : IntKind.i64.wrap 8 = 8 := by decide +kernel
@[simp] theorem wrap_9 : IntKind.i64.wrap 9 = 9 := by decide +kernel
@[simp] theorem wrap_10 : IntKind.i64.wrap 10 = 10 := by decide +kernel
@[simp] theorem wrap_11 : IntKind.i64.wrap 11 = 11 := by decide +kernel
@[simp] theorem wrap_12 : IntKind.i64.wrap 12 = 12 := by decide +kernel
attribute [local simp] globT
structure S8 where
  a0 : Int
  a1 : Int
  a2 : Int
  a3 : Int
  a4 : Int
  a5 : Int
  a6 : Int
  a7 : Int
abbrev wrapU (x : Int) : Int := IntKind.u32.wrap x
def rnd (k : Int) (s : S8) : S8 :=
  ⟨wrapU (s.a3 + s.a7), turnP (xorW s.a4 (wrapU (wrapU (s.a0 + wrapU (2654435769 * (k + 1))) + s.a4))) 7, turnP (xorW s.a5 (wrapU (s.a1 + s.a5))) 9, turnP (xorW s.a6 (wrapU (s.a2 + s.a6))) 13,
   turnP (xorW s.a7 (wrapU (s.a3 + s.a7))) 18, wrapU (wrapU (s.a0 + wrapU (2654435769 * (k + 1))) + s.a4), wrapU (s.a1 + s.a5), wrapU (s.a2 + s.a6)⟩
def mixN : Nat → S8 → S8
  | 0, s => s
  | k + 1, s => rnd k (mixN k s)
def S8.row (s : S8) : List AV := [uv s.a0, uv s.a1, uv s.a2, uv s.a3, uv s.a4, uv s.a5, uv s.a6, uv s.a7]
set_option maxRecDepth 20000 in
set_option maxHeartbeats 16000000 in
theorem e66 (s : S8) : (lim Tryz.prog E47 X47).dat 71 [.agg s.row] = some [.agg (mixN 8 s).row] := by
  refine fnW Tryz.func71 rfl rfl bodyOk_71 rfl rtys_71 rfl ?_
  have t7 : ∀ a b, (lim Tryz.prog E47 X47).dat 110 [uv (xorW a b), iv 7] = some [uv (turnP (xorW a b) 7)] := fun a b => e78_7 _ (xorW_U a b)
  have t9 : ∀ a b, (lim Tryz.prog E47 X47).dat 110 [uv (xorW a b), iv 9] = some [uv (turnP (xorW a b) 9)] := fun a b => e78_9 _ (xorW_U a b)
  have t13 : ∀ a b, (lim Tryz.prog E47 X47).dat 110 [uv (xorW a b), iv 13] = some [uv (turnP (xorW a b) 13)] := fun a b => e78_13 _ (xorW_U a b)
  have t18 : ∀ a b, (lim Tryz.prog E47 X47).dat 110 [uv (xorW a b), iv 18] = some [uv (turnP (xorW a b) 18)] := fun a b => e78_18 _ (xorW_U a b)
  unfold S8.row
  repeat' (first
    | ((with_reducible first | apply Wo_u | apply Wo_n | apply ex2 | apply W_sc | apply W_c | apply Wd_u | apply Wd_n | apply ex4 | apply EndQ_ret | apply EndQ_normal); (conv => lhs; simp -implicitDefEqProofs [*]) <;> exact rfl)
    | (with_reducible first | apply Wo_nil | apply W_ss | apply W_srl | apply W_rl | apply W_sblock | apply W_block | apply W_sskip | apply W_skip | apply W_sret | apply W_ret | apply W_sexit | apply W_exit | apply thenW_n | apply thenW_r | apply thenW_e | apply inB_n | apply inB_r | apply inB_e)
    | ((with_reducible apply Wo_gt); (exact rfl); ((conv => lhs; simp -implicitDefEqProofs [*]) <;> exact rfl); (conv => lhs; simp -implicitDefEqProofs [*]) <;> exact rfl)
    | ((with_reducible apply Wo_gf); (exact rfl); ((conv => lhs; simp -implicitDefEqProofs [*]) <;> exact rfl); (exact rfl))
    | ((with_reducible apply Wo_gx); (exact rfl); ((conv => lhs; simp -implicitDefEqProofs [*]) <;> exact rfl))
    | ((with_reducible apply Wo_gsT); (exact rfl); ((conv => lhs; simp -implicitDefEqProofs [*]) <;> exact rfl))
    | ((with_reducible apply Wo_gsF); (exact rfl); ((conv => lhs; simp -implicitDefEqProofs [*]) <;> exact rfl))
    | ((with_reducible apply Wd_gsT); (exact rfl); ((conv => lhs; simp -implicitDefEqProofs [*]) <;> exact rfl))
    | ((with_reducible apply Wd_gsF); (exact rfl); ((conv => lhs; simp -implicitDefEqProofs [*]) <;> exact rfl))
    | ((with_reducible first | apply W_srdl | apply W_rdl); kernel_rfl)
    | ((with_reducible apply Wd_nil); exact rfl)
    | ((with_reducible apply inB_o); rotate_left; exact rfl)
    | (intro h h'; try simp [*, -h] at h'))
  refine W_loopS (n := 8) (fun s0 m q => ∃ k : Nat, m = 8 - k ∧ k ≤ 8 ∧ q.fr 3 = uv k ∧ q.hp ⟨0, 1, 0⟩ = .box 1 (mixN k s).row false ∧ q.fr 1 = s0.fr 1 ∧ q.fr 2 = s0.fr 2 ∧ q.hp ⟨0, 2, 0⟩ = s0.hp ⟨0, 2, 0⟩) ⟨0, by simp, by omega, by simp, by simp [mixN, S8.row], by simp, by simp, by simp⟩ ?_
  rintro m ⟨fr, hp⟩ ⟨k, rfl, hk, hs, hh1, hk1, hk2, hh2⟩
  simp at hs hk1 hk2 hh2
  simp only at hh1
  by_cases hlt : k < 8
  · have hw : IntKind.u32.wrap ((k : Int) + 1) = (k : Int) + 1 := by rw [IntKind.wrap_u32]; omega
    have hlI : (k : Int) < 8 := by omega
    have hm : mixN (k + 1) s = rnd k (mixN k s) := rfl
    have hm' := Lib.hid hm
    clear hm
    generalize mixN k s = z at *
    obtain ⟨x0, x1, x2, x3, x4, x5, x6, x7⟩ := z
    simp only [S8.row] at hh1
    repeat' (first
      | ((with_reducible first | apply Wo_u | apply Wo_n | apply ex2 | apply W_sc | apply W_c | apply Wd_u | apply Wd_n | apply ex4 | apply EndQ_ret | apply EndQ_normal); (conv => lhs; simp -implicitDefEqProofs [*]) <;> exact rfl)
      | (with_reducible first | apply Wo_nil | apply W_ss | apply W_srl | apply W_rl | apply W_sblock | apply W_block | apply W_sskip | apply W_skip | apply W_sret | apply W_ret | apply W_sexit | apply W_exit | apply thenW_n | apply thenW_r | apply thenW_e | apply inB_n | apply inB_r | apply inB_e)
      | ((with_reducible apply Wo_gt); (exact rfl); ((conv => lhs; simp -implicitDefEqProofs [*]) <;> exact rfl); (conv => lhs; simp -implicitDefEqProofs [*]) <;> exact rfl)
      | ((with_reducible apply Wo_gf); (exact rfl); ((conv => lhs; simp -implicitDefEqProofs [*]) <;> exact rfl); (exact rfl))
      | ((with_reducible apply Wo_gx); (exact rfl); ((conv => lhs; simp -implicitDefEqProofs [*]) <;> exact rfl))
      | ((with_reducible apply Wo_gsT); (exact rfl); ((conv => lhs; simp -implicitDefEqProofs [*]) <;> exact rfl))
      | ((with_reducible apply Wo_gsF); (exact rfl); ((conv => lhs; simp -implicitDefEqProofs [*]) <;> exact rfl))
      | ((with_reducible apply Wd_gsT); (exact rfl); ((conv => lhs; simp -implicitDefEqProofs [*]) <;> exact rfl))
      | ((with_reducible apply Wd_gsF); (exact rfl); ((conv => lhs; simp -implicitDefEqProofs [*]) <;> exact rfl))
      | ((with_reducible first | apply W_srdl | apply W_rdl); kernel_rfl)
      | ((with_reducible apply Wd_nil); exact rfl)
      | ((with_reducible apply inB_o); rotate_left; exact rfl)
      | (intro h h'; try simp [*, -h] at h')
      | with_reducible apply W_unroll)
    all_goals exact ⟨_, by omega, k + 1, rfl, hlt, by simp [*], by rw [hm'.out]; simp [S8.row, rnd], by simp [*], by simp [*], by simp [*]⟩
  · obtain rfl : k = 8 := by omega
    generalize mixN 8 s = z at *
    obtain ⟨x0, x1, x2, x3, x4, x5, x6, x7⟩ := z
    simp only [S8.row] at hh1
    repeat' (first
      | ((with_reducible first | apply Wo_u | apply Wo_n | apply ex2 | apply W_sc | apply W_c | apply Wd_u | apply Wd_n | apply ex4 | apply EndQ_ret | apply EndQ_normal); (conv => lhs; simp -implicitDefEqProofs [*]) <;> exact rfl)
      | (with_reducible first | apply Wo_nil | apply W_ss | apply W_srl | apply W_rl | apply W_sblock | apply W_block | apply W_sskip | apply W_skip | apply W_sret | apply W_ret | apply W_sexit | apply W_exit | apply thenW_n | apply thenW_r | apply thenW_e | apply inB_n | apply inB_r | apply inB_e)
      | ((with_reducible apply Wo_gt); (exact rfl); ((conv => lhs; simp -implicitDefEqProofs [*]) <;> exact rfl); (conv => lhs; simp -implicitDefEqProofs [*]) <;> exact rfl)
      | ((with_reducible apply Wo_gf); (exact rfl); ((conv => lhs; simp -implicitDefEqProofs [*]) <;> exact rfl); (exact rfl))
      | ((with_reducible apply Wo_gx); (exact rfl); ((conv => lhs; simp -implicitDefEqProofs [*]) <;> exact rfl))
      | ((with_reducible apply Wo_gsT); (exact rfl); ((conv => lhs; simp -implicitDefEqProofs [*]) <;> exact rfl))
      | ((with_reducible apply Wo_gsF); (exact rfl); ((conv => lhs; simp -implicitDefEqProofs [*]) <;> exact rfl))
      | ((with_reducible apply Wd_gsT); (exact rfl); ((conv => lhs; simp -implicitDefEqProofs [*]) <;> exact rfl))
      | ((with_reducible apply Wd_gsF); (exact rfl); ((conv => lhs; simp -implicitDefEqProofs [*]) <;> exact rfl))
      | ((with_reducible first | apply W_srdl | apply W_rdl); kernel_rfl)
      | ((with_reducible apply Wd_nil); exact rfl)
      | ((with_reducible apply inB_o); rotate_left; exact rfl)
      | (intro h h'; try simp [*, -h] at h'))
    all_goals rfl
theorem e75 : (lim Tryz.prog E47 X47).dat 116 [] = some [.agg [iv 7, iv 9, iv 13, iv 18]] := lim_dat.2 ⟨10, by kernel_rfl⟩
set_option maxRecDepth 20000 in
set_option maxHeartbeats 16000000 in
theorem e60 (s : S8) : (lim Tryz.prog E47 X47).dat 77 [.agg s.row] = some [.agg (mixN 8 s).row] := by
  refine fnW Tryz.func77 rfl rfl bodyOk_77 rfl rtys_77 rfl ?_
  have t7 : ∀ a b, (lim Tryz.prog E47 X47).dat 117 [uv (xorW a b), iv 7] = some [uv (turnP (xorW a b) 7)] := fun a b => e76_7 _ (xorW_U a b)
  have t9 : ∀ a b, (lim Tryz.prog E47 X47).dat 117 [uv (xorW a b), iv 9] = some [uv (turnP (xorW a b) 9)] := fun a b => e76_9 _ (xorW_U a b)
  have t13 : ∀ a b, (lim Tryz.prog E47 X47).dat 117 [uv (xorW a b), iv 13] = some [uv (turnP (xorW a b) 13)] := fun a b => e76_13 _ (xorW_U a b)
  have t18 : ∀ a b, (lim Tryz.prog E47 X47).dat 117 [uv (xorW a b), iv 18] = some [uv (turnP (xorW a b) 18)] := fun a b => e76_18 _ (xorW_U a b)
  have h75 := e75
  unfold S8.row
  repeat' (first
    | ((with_reducible first | apply Wo_u | apply Wo_n | apply ex2 | apply W_sc | apply W_c | apply Wd_u | apply Wd_n | apply ex4 | apply EndQ_ret | apply EndQ_normal); (conv => lhs; simp -implicitDefEqProofs [*]) <;> exact rfl)
    | (with_reducible first | apply Wo_nil | apply W_ss | apply W_srl | apply W_rl | apply W_sblock | apply W_block | apply W_sskip | apply W_skip | apply W_sret | apply W_ret | apply W_sexit | apply W_exit | apply thenW_n | apply thenW_r | apply thenW_e | apply inB_n | apply inB_r | apply inB_e)
    | ((with_reducible apply Wo_gt); (exact rfl); ((conv => lhs; simp -implicitDefEqProofs [*]) <;> exact rfl); (conv => lhs; simp -implicitDefEqProofs [*]) <;> exact rfl)
    | ((with_reducible apply Wo_gf); (exact rfl); ((conv => lhs; simp -implicitDefEqProofs [*]) <;> exact rfl); (exact rfl))
    | ((with_reducible apply Wo_gx); (exact rfl); ((conv => lhs; simp -implicitDefEqProofs [*]) <;> exact rfl))
    | ((with_reducible apply Wo_gsT); (exact rfl); ((conv => lhs; simp -implicitDefEqProofs [*]) <;> exact rfl))
    | ((with_reducible apply Wo_gsF); (exact rfl); ((conv => lhs; simp -implicitDefEqProofs [*]) <;> exact rfl))
    | ((with_reducible apply Wd_gsT); (exact rfl); ((conv => lhs; simp -implicitDefEqProofs [*]) <;> exact rfl))
    | ((with_reducible apply Wd_gsF); (exact rfl); ((conv => lhs; simp -implicitDefEqProofs [*]) <;> exact rfl))
    | ((with_reducible first | apply W_srdl | apply W_rdl); kernel_rfl)
    | ((with_reducible apply Wd_nil); exact rfl)
    | ((with_reducible apply inB_o); rotate_left; exact rfl)
    | (intro h h'; try simp [*, -h] at h'))
  refine W_loopS (n := 8) (fun s0 m q => ∃ k : Nat, m = 8 - k ∧ k ≤ 8 ∧ q.fr 4 = iv k ∧ q.hp ⟨0, 1, 0⟩ = .box 1 (mixN k s).row false ∧ q.fr 1 = s0.fr 1 ∧ q.fr 2 = s0.fr 2 ∧ q.hp ⟨0, 2, 0⟩ = s0.hp ⟨0, 2, 0⟩ ∧ q.fr 3 = s0.fr 3 ∧ q.hp ⟨0, 3, 0⟩ = s0.hp ⟨0, 3, 0⟩) ⟨0, by simp, by omega, by simp, by simp [mixN, S8.row], by simp, by simp, by simp, by simp, by simp⟩ ?_
  rintro m ⟨fr, hp⟩ ⟨k, rfl, hk, hs, hh1, hk1, hk2, hh2, hk3, hh3⟩
  simp at hs hk1 hk2 hh2 hk3 hh3
  simp only at hh1
  by_cases hlt : k < 8
  · have hw : IntKind.u32.wrap ((k : Int) + 1) = (k : Int) + 1 := by rw [IntKind.wrap_u32]; omega
    have hw2 := wrapN (k := k) (by omega)
    have hlI : (k : Int) < 8 := by omega
    have hm : mixN (k + 1) s = rnd k (mixN k s) := rfl
    have hm' := Lib.hid hm
    clear hm
    generalize mixN k s = z at *
    obtain ⟨x0, x1, x2, x3, x4, x5, x6, x7⟩ := z
    simp only [S8.row] at hh1
    repeat' (first
      | ((with_reducible first | apply Wo_u | apply Wo_n | apply ex2 | apply W_sc | apply W_c | apply Wd_u | apply Wd_n | apply ex4 | apply EndQ_ret | apply EndQ_normal); (conv => lhs; simp -implicitDefEqProofs [*]) <;> exact rfl)
      | (with_reducible first | apply Wo_nil | apply W_ss | apply W_srl | apply W_rl | apply W_sblock | apply W_block | apply W_sskip | apply W_skip | apply W_sret | apply W_ret | apply W_sexit | apply W_exit | apply thenW_n | apply thenW_r | apply thenW_e | apply inB_n | apply inB_r | apply inB_e)
      | ((with_reducible apply Wo_gt); (exact rfl); ((conv => lhs; simp -implicitDefEqProofs [*]) <;> exact rfl); (conv => lhs; simp -implicitDefEqProofs [*]) <;> exact rfl)
      | ((with_reducible apply Wo_gf); (exact rfl); ((conv => lhs; simp -implicitDefEqProofs [*]) <;> exact rfl); (exact rfl))
      | ((with_reducible apply Wo_gx); (exact rfl); ((conv => lhs; simp -implicitDefEqProofs [*]) <;> exact rfl))
      | ((with_reducible apply Wo_gsT); (exact rfl); ((conv => lhs; simp -implicitDefEqProofs [*]) <;> exact rfl))
      | ((with_reducible apply Wo_gsF); (exact rfl); ((conv => lhs; simp -implicitDefEqProofs [*]) <;> exact rfl))
      | ((with_reducible apply Wd_gsT); (exact rfl); ((conv => lhs; simp -implicitDefEqProofs [*]) <;> exact rfl))
      | ((with_reducible apply Wd_gsF); (exact rfl); ((conv => lhs; simp -implicitDefEqProofs [*]) <;> exact rfl))
      | ((with_reducible first | apply W_srdl | apply W_rdl); kernel_rfl)
      | ((with_reducible apply Wd_nil); exact rfl)
      | ((with_reducible apply inB_o); rotate_left; exact rfl)
      | (intro h h'; try simp [*, -h] at h')
      | with_reducible apply W_unroll)
    all_goals exact ⟨_, by omega, k + 1, rfl, hlt, by simp [*], by rw [hm'.out]; simp [S8.row, rnd], by simp [*], by simp [*], by simp [*], by simp [*], by simp [*]⟩
  · obtain rfl : k = 8 := by omega
    generalize mixN 8 s = z at *
    obtain ⟨x0, x1, x2, x3, x4, x5, x6, x7⟩ := z
    simp only [S8.row] at hh1
    repeat' (first
      | ((with_reducible first | apply Wo_u | apply Wo_n | apply ex2 | apply W_sc | apply W_c | apply Wd_u | apply Wd_n | apply ex4 | apply EndQ_ret | apply EndQ_normal); (conv => lhs; simp -implicitDefEqProofs [*]) <;> exact rfl)
      | (with_reducible first | apply Wo_nil | apply W_ss | apply W_srl | apply W_rl | apply W_sblock | apply W_block | apply W_sskip | apply W_skip | apply W_sret | apply W_ret | apply W_sexit | apply W_exit | apply thenW_n | apply thenW_r | apply thenW_e | apply inB_n | apply inB_r | apply inB_e)
      | ((with_reducible apply Wo_gt); (exact rfl); ((conv => lhs; simp -implicitDefEqProofs [*]) <;> exact rfl); (conv => lhs; simp -implicitDefEqProofs [*]) <;> exact rfl)
      | ((with_reducible apply Wo_gf); (exact rfl); ((conv => lhs; simp -implicitDefEqProofs [*]) <;> exact rfl); (exact rfl))
      | ((with_reducible apply Wo_gx); (exact rfl); ((conv => lhs; simp -implicitDefEqProofs [*]) <;> exact rfl))
      | ((with_reducible apply Wo_gsT); (exact rfl); ((conv => lhs; simp -implicitDefEqProofs [*]) <;> exact rfl))
      | ((with_reducible apply Wo_gsF); (exact rfl); ((conv => lhs; simp -implicitDefEqProofs [*]) <;> exact rfl))
      | ((with_reducible apply Wd_gsT); (exact rfl); ((conv => lhs; simp -implicitDefEqProofs [*]) <;> exact rfl))
      | ((with_reducible apply Wd_gsF); (exact rfl); ((conv => lhs; simp -implicitDefEqProofs [*]) <;> exact rfl))
      | ((with_reducible first | apply W_srdl | apply W_rdl); kernel_rfl)
      | ((with_reducible apply Wd_nil); exact rfl)
      | ((with_reducible apply inB_o); rotate_left; exact rfl)
      | (intro h h'; try simp [*, -h] at h'))
    all_goals rfl
end Go.Proofs.YtaeeffddinppeaaGreatDoor
