/- A part of the proof: Tn. -/
import Derived.Test.YtaeeffddinppeaaGreatDoorR21
import Derived.Test.YtaeeffddinppeaaGreatDoorR26
set_option linter.unusedSimpArgs false
set_option linter.unusedVariables false
namespace Go.Proofs.YtaeeffddinppeaaGreatDoor
open Go Go.Ab
attribute [-simp] Prog.bind getCs putCs
attribute [local simp ↓] run_bind
attribute [local simp ↓] runF_bind
attribute [local simp] run_getCsN runF_getCsN facetsC putCs_one run_putCsN runF_putCsN facetsW facetsH
abbrev rowN (l : List Int) : List (List AV) := l.map fun x => [iv x]
structure Par where
  kind : Int
  ps : List Int
  img : ByteArray
  fuel : Int
  mark : D4
  give : ByteArray
def Par.row (p : Par) : List AV := [iv p.kind, .sl false 1 (rowN p.ps), .sc (.string p.img), iv p.fuel, uv p.mark.d0, uv p.mark.d1, uv p.mark.d2, uv p.mark.d3, .sc (.string p.give)]
def diffL : List UInt8 → List UInt8 → Nat → Int
  | [], [], _ => -1
  | x :: a, y :: b, k => if x = y then diffL a b (k + 1) else k
  | _, _, k => k
def diffB (a b : ByteArray) : Int := diffL a.data.toList b.data.toList 0
theorem diffL_iff : ∀ (a b : List UInt8) (k : Nat), diffL a b k = -1 ↔ a = b
  | [], [], k => by simp [diffL]
  | x :: a, y :: b, k => by
    unfold diffL
    split
    · rename_i h
      rw [diffL_iff a b (k + 1), h]
      simp
    · rename_i h
      constructor
      · intro h'; omega
      · intro h'; simp at h'; exact (h h'.1).elim
  | [], y :: b, k => by simp only [diffL]; constructor <;> intro h <;> first | omega | (simp at h)
  | x :: a, [], k => by simp only [diffL]; constructor <;> intro h <;> first | omega | (simp at h)
theorem diffL_ge : ∀ (a b : List UInt8) (k : Nat), diffL a b k ≠ -1 → 0 ≤ diffL a b k
  | [], [], k, h => by simp [diffL] at h
  | x :: a, y :: b, k, h => by
    unfold diffL at h ⊢
    split
    · rename_i e; rw [if_pos e] at h; exact diffL_ge a b (k + 1) h
    · omega
  | [], y :: b, k, _ => by simp only [diffL]; omega
  | x :: a, [], k, _ => by simp only [diffL]; omega
theorem diffB_iff (a b : ByteArray) : diffB a b = -1 ↔ a = b := by
  unfold diffB
  rw [diffL_iff]
  constructor
  · intro h
    apply ByteArray.ext; apply Array.ext'; exact h
  · intro h; rw [h]
theorem diffB_ge {a b : ByteArray} (h : a ≠ b) : 0 ≤ diffB a b := diffL_ge _ _ _ fun e => h ((diffB_iff a b).1 e)
theorem diffL_step {a b : List UInt8} {k : Nat} (ha : k < a.length) (hb : k < b.length) : diffL (a.drop k) (b.drop k) k = if a[k] = b[k] then diffL (a.drop (k + 1)) (b.drop (k + 1)) (k + 1) else (k : Int) := by
  rw [List.drop_eq_getElem_cons ha, List.drop_eq_getElem_cons hb]
  rfl
theorem diffL_end {a b : List UInt8} {k : Nat} (h : k = min a.length b.length) : diffL (a.drop k) (b.drop k) k = if a.length = b.length then (-1 : Int) else (k : Int) := by
  rcases Nat.lt_trichotomy a.length b.length with h1 | h1 | h1
  · rw [if_neg (by omega), (show a.drop k = [] from List.drop_eq_nil_of_le (by omega)), List.drop_eq_getElem_cons (l := b) (by omega)]
    rfl
  · rw [if_pos h1, (show a.drop k = [] from List.drop_eq_nil_of_le (by omega)), (show b.drop k = [] from List.drop_eq_nil_of_le (by omega))]
    rfl
  · rw [if_neg (by omega), (show b.drop k = [] from List.drop_eq_nil_of_le (by omega)), List.drop_eq_getElem_cons (l := a) (by omega)]
    rfl
set_option maxHeartbeats 4000000 in
theorem g50 (a b : ByteArray) (ha : a.size ≤ 1048576) (hb : b.size ≤ 1048576)  : (lim Tryz.prog E47 X47).dat 50 [.sc (.string a), .sc (.string b)] = some [iv (diffB a b)] := by
  refine fnW Tryz.func50 rfl rfl bodyOk_50 rfl rtys_50 rfl ?_
  have hm : min (a.size : Int) (b.size : Int) = ((min a.size b.size : Nat) : Int) := by omega
  have hle1 : min a.size b.size ≤ a.size := Nat.min_le_left _ _
  have hle2 : min a.size b.size ≤ b.size := Nat.min_le_right _ _
  obtain ⟨N, hN⟩ : ∃ N, min a.size b.size = N := ⟨_, rfl⟩
  rw [hN] at hm hle1 hle2
  have hal : a.data.toList.length = a.size := rfl
  have hbl : b.data.toList.length = b.size := rfl
  refine sgo0 ?_
  refine W_loopS (n := N + 1) (fun s0 m q => ∃ k : Nat, m = N + 1 - k ∧ k ≤ N ∧ diffB a b = diffL (a.data.toList.drop k) (b.data.toList.drop k) k ∧ q.fr 13 = iv k ∧ q.fr 0 = s0.fr 0 ∧ q.fr 1 = s0.fr 1 ∧ q.fr 12 = s0.fr 12 ∧ q.fr 5 = s0.fr 5) ⟨0, by simp, by omega, by simp [diffB], by simp, by simp, by simp, by simp, by simp⟩ ?_
  rintro m ⟨fr, hp⟩ ⟨k, rfl, hk, hdf, hs13, hs0, hs1, hs12, hs5⟩
  simp at hs13 hs0 hs1 hs12 hs5
  rw [hdf]
  have hw := wrapN (k := k) (by omega)
  by_cases hlt : k < N
  · have hlI : (k : Int) < N := by omega
    have ka : k < a.data.toList.length := by omega
    have kb : k < b.data.toList.length := by omega
    have hst := diffL_step (a := a.data.toList) (b := b.data.toList) ka kb
    have ga : a.data[k]? = some a.data.toList[k] := by rw [← Array.getElem?_toList]; exact List.getElem?_eq_getElem ka
    have gb : b.data[k]? = some b.data.toList[k] := by rw [← Array.getElem?_toList]; exact List.getElem?_eq_getElem kb
    have ka' : k < a.data.size := ka
    have kb' : k < b.data.size := kb
    obtain ⟨x, hx⟩ : ∃ x, a.data.toList[k] = x := ⟨_, rfl⟩
    obtain ⟨y, hy⟩ : ∃ y, b.data.toList[k] = y := ⟨_, rfl⟩
    rw [hx] at hst ga
    rw [hy] at hst gb
    have ga' : ∀ h, a.data[k]'h = x := fun h => by rw [← Array.getElem_toList]; exact hx
    have gb' : ∀ h, b.data[k]'h = y := fun h => by rw [← Array.getElem_toList]; exact hy
    have hxy : ((x.toNat : Int) != (y.toNat : Int)) = decide (x ≠ y) := by
      rw [bne_dec]
      refine decide_eq_decide.2 (not_congr ⟨fun h => UInt8.toNat_inj.1 (by omega), fun h => by rw [h]⟩)
    clear hx hy hN
    by_cases he : x = y
    · rw [if_pos he] at hst
      have hdf2 := hdf.trans hst
      rw [← hdf]
      clear hdf hst
      have hxy2 : ((x.toNat : Int) != (y.toNat : Int)) = false := by rw [hxy]; simp [he]
      clear hxy he
      generalize diffB a b = D at *
      repeat' (first | ((with_reducible first | apply Wo_u | apply Wo_n | apply ex2 | apply W_sc | apply W_c | apply Wd_u | apply Wd_n | apply ex4 | apply EndQ_ret | apply EndQ_normal); (conv => lhs; simp -implicitDefEqProofs [*]) <;> exact rfl) | (with_reducible first | apply Wo_nil | apply W_ss | apply W_srl | apply W_rl | apply W_sblock | apply W_block | apply W_sskip | apply W_skip | apply W_sret | apply W_ret | apply W_sexit | apply W_exit | apply thenW_n | apply thenW_r | apply thenW_e | apply inB_n | apply inB_r | apply inB_e) | ((with_reducible apply Wo_gt); (exact rfl); ((conv => lhs; simp -implicitDefEqProofs [*]) <;> exact rfl); (conv => lhs; simp -implicitDefEqProofs [*]) <;> exact rfl) | ((with_reducible apply Wo_gf); (exact rfl); ((conv => lhs; simp -implicitDefEqProofs [*]) <;> exact rfl); (exact rfl)) | ((with_reducible apply Wo_gx); (exact rfl); ((conv => lhs; simp -implicitDefEqProofs [*]) <;> exact rfl)) | ((with_reducible apply Wo_gsT); (exact rfl); ((conv => lhs; simp -implicitDefEqProofs [*]) <;> exact rfl)) | ((with_reducible apply Wo_gsF); (exact rfl); ((conv => lhs; simp -implicitDefEqProofs [*]) <;> exact rfl)) | ((with_reducible apply Wd_gsT); (exact rfl); ((conv => lhs; simp -implicitDefEqProofs [*]) <;> exact rfl)) | ((with_reducible apply Wd_gsF); (exact rfl); ((conv => lhs; simp -implicitDefEqProofs [*]) <;> exact rfl)) | ((with_reducible first | apply W_srdl | apply W_rdl); kernel_rfl) | ((with_reducible apply Wd_nil); kernel_rfl) | ((with_reducible apply inB_o); rotate_left; exact rfl) | (intro h h'; try simp [*, -h] at h') | ((with_reducible apply Wd_gx); (exact rfl); ((conv => lhs; simp -implicitDefEqProofs [*]) <;> exact rfl)))
      all_goals exact ⟨_, by omega, k + 1, rfl, hlt, hdf2, by simp [*], by simp [*], by simp [*], by simp [*], by simp [*]⟩
    · rw [if_neg he] at hst
      have hxy2 : ((x.toNat : Int) != (y.toNat : Int)) = true := by rw [hxy]; simp [he]
      rw [hst]
      clear hxy he hst hdf
      exact step0
  · obtain rfl : k = N := by omega
    have hen := diffL_end (a := a.data.toList) (b := b.data.toList) (k := k) (by rw [hal, hbl]; exact hN.symm)
    rw [hen, hal, hbl]
    have hnI : ¬ (k : Int) < k := by omega
    have hb2 : ((a.size : Int) != (b.size : Int)) = decide (a.size ≠ b.size) := by rw [bne_dec]; exact decide_eq_decide.2 (by omega)
    clear hdf hN hen
    by_cases he : a.size = b.size
    all_goals simp only [he, ne_eq, not_true, not_false_iff, if_true, if_false, decide_true, decide_false] at hb2 ⊢
    all_goals exact step0
end Go.Proofs.YtaeeffddinppeaaGreatDoor
