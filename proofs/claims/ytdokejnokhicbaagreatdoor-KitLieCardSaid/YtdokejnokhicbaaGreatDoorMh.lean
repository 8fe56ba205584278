/- Law 47: cutting a store; the fixed answers, walked. -/
import Derived.Test.YtdokejnokhicbaaGreatDoorMf
import Derived.Test.YtdokejnokhicbaaGreatDoorMg
namespace Go.Proofs.YtdokejnokhicbaaGreatDoor
open Go Go.Ab
set_option linter.unusedSimpArgs false
set_option linter.unusedVariables false
abbrev rowS (l : List ByteArray) : List (List AV) := l.map fun x => [.sc (.string x)]
def cutR15 (l : List ByteArray) (n : Int) : List AV := if 0 ≤ n ∧ n ≤ l.length then [.agg [.sl false 1 (rowS (l.take n.toNat))], iv 0] else [.agg [.vec 1 []], iv 1]
set_option maxHeartbeats 4000000 in
theorem d15 (l : List ByteArray) (n : Int) (hl : l.length ≤ 1048576) : (lim Tryz.prog E47 X47).dat 11 [.agg [.sl false 1 (rowS l)], iv n] = some (cutR15 l n) := by
  refine fnW Tryz.func11 rfl rfl bodyOk_11 rfl rtys_11 rfl ?_
  unfold cutR15
  by_cases c1 : n < 0
  · rw [if_neg (by omega)]
    repeat' (first
      | ((with_reducible first | apply Wo_u | apply Wo_n | apply ex2 | apply W_sc | apply W_c | apply Wd_u | apply Wd_n | apply ex4 | apply EndQ_ret | apply EndQ_normal); (conv => lhs; simp -implicitDefEqProofs [*]) <;> exact rfl)
      | (with_reducible first | apply Wo_nil | apply W_ss | apply W_srl | apply W_rl | apply W_sblock | apply W_block | apply W_sskip | apply W_skip | apply W_sret | apply W_ret | apply W_sexit | apply W_exit | apply thenW_n | apply thenW_r | apply thenW_e | apply inB_n | apply inB_r | apply inB_e)
      | ((with_reducible apply Wo_gt); (exact rfl); ((conv => lhs; simp -implicitDefEqProofs [*]) <;> exact rfl); (conv => lhs; simp -implicitDefEqProofs [*]) <;> exact rfl)
      | ((with_reducible apply Wo_gf); (exact rfl); ((conv => lhs; simp -implicitDefEqProofs [*]) <;> exact rfl); (exact rfl))
      | ((with_reducible apply Wo_gx); (exact rfl); ((conv => lhs; simp -implicitDefEqProofs [*]) <;> exact rfl))
      | ((with_reducible apply Wo_gsT); (exact rfl); ((conv => lhs; simp -implicitDefEqProofs [*]) <;> exact rfl))
      | ((with_reducible apply Wo_gsF); (exact rfl); ((conv => lhs; simp -implicitDefEqProofs [*]) <;> exact rfl))
      | ((with_reducible apply Wd_gsT); (exact rfl); ((conv => lhs; simp -implicitDefEqProofs [*]) <;> exact rfl))
      | ((with_reducible apply Wd_gsF); (exact rfl); ((conv => lhs; simp -implicitDefEqProofs [*]) <;> exact rfl))
      | ((with_reducible first | apply W_srdl | apply W_rdl); kernel_rfl)
      | ((with_reducible apply Wd_nil); exact rfl)
      | ((with_reducible apply inB_o); rotate_left; exact rfl)
      | (intro h h'; try simp [*, -h] at h'))
    all_goals rfl
  · by_cases c2 : (l.length : Int) < n
    · rw [if_neg (by omega)]
      repeat' (first
        | ((with_reducible first | apply Wo_u | apply Wo_n | apply ex2 | apply W_sc | apply W_c | apply Wd_u | apply Wd_n | apply ex4 | apply EndQ_ret | apply EndQ_normal); (conv => lhs; simp -implicitDefEqProofs [*]) <;> exact rfl)
        | (with_reducible first | apply Wo_nil | apply W_ss | apply W_srl | apply W_rl | apply W_sblock | apply W_block | apply W_sskip | apply W_skip | apply W_sret | apply W_ret | apply W_sexit | apply W_exit | apply thenW_n | apply thenW_r | apply thenW_e | apply inB_n | apply inB_r | apply inB_e)
        | ((with_reducible apply Wo_gt); (exact rfl); ((conv => lhs; simp -implicitDefEqProofs [*]) <;> exact rfl); (conv => lhs; simp -implicitDefEqProofs [*]) <;> exact rfl)
        | ((with_reducible apply Wo_gf); (exact rfl); ((conv => lhs; simp -implicitDefEqProofs [*]) <;> exact rfl); (exact rfl))
        | ((with_reducible apply Wo_gx); (exact rfl); ((conv => lhs; simp -implicitDefEqProofs [*]) <;> exact rfl))
        | ((with_reducible apply Wo_gsT); (exact rfl); ((conv => lhs; simp -implicitDefEqProofs [*]) <;> exact rfl))
        | ((with_reducible apply Wo_gsF); (exact rfl); ((conv => lhs; simp -implicitDefEqProofs [*]) <;> exact rfl))
        | ((with_reducible apply Wd_gsT); (exact rfl); ((conv => lhs; simp -implicitDefEqProofs [*]) <;> exact rfl))
        | ((with_reducible apply Wd_gsF); (exact rfl); ((conv => lhs; simp -implicitDefEqProofs [*]) <;> exact rfl))
        | ((with_reducible first | apply W_srdl | apply W_rdl); kernel_rfl)
        | ((with_reducible apply Wd_nil); exact rfl)
        | ((with_reducible apply inB_o); rotate_left; exact rfl)
        | (intro h h'; try simp [*, -h] at h'))
      all_goals rfl
    · rw [if_pos (by omega)]
      obtain ⟨k, rfl⟩ : ∃ k : Nat, n = k := ⟨n.toNat, by omega⟩
      have hk : k ≤ l.length := by omega
      rw [Int.toNat_natCast]
      have n1 : k * 16 ≤ 140737488355328 := by omega
      have n2 : k ≤ 9223372036854775807 := by omega
      have n3 : (k : Int) * 16 ≤ 140737488355328 := by omega
      have n4 : (k : Int) ≤ 9223372036854775807 := by omega
      have n5 : (0 : Int) ≤ k := by omega
      have n6 : (k : Int) ≤ l.length := by omega
      have n7 : min k l.length = k := by omega
      have n8 : k ≤ 140737488355328 := by omega
      repeat' (first
        | ((with_reducible first | apply Wo_u | apply Wo_n | apply ex2 | apply W_sc | apply W_c | apply Wd_u | apply Wd_n | apply ex4 | apply EndQ_ret | apply EndQ_normal); (conv => lhs; simp -implicitDefEqProofs [*]) <;> exact rfl)
        | (with_reducible first | apply Wo_nil | apply W_ss | apply W_srl | apply W_rl | apply W_sblock | apply W_block | apply W_sskip | apply W_skip | apply W_sret | apply W_ret | apply W_sexit | apply W_exit | apply thenW_n | apply thenW_r | apply thenW_e | apply inB_n | apply inB_r | apply inB_e)
        | ((with_reducible apply Wo_gt); (exact rfl); ((conv => lhs; simp -implicitDefEqProofs [*]) <;> exact rfl); (conv => lhs; simp -implicitDefEqProofs [*]) <;> exact rfl)
        | ((with_reducible apply Wo_gf); (exact rfl); ((conv => lhs; simp -implicitDefEqProofs [*]) <;> exact rfl); (exact rfl))
        | ((with_reducible apply Wo_gx); (exact rfl); ((conv => lhs; simp -implicitDefEqProofs [*]) <;> exact rfl))
        | ((with_reducible apply Wo_gsT); (exact rfl); ((conv => lhs; simp -implicitDefEqProofs [*]) <;> exact rfl))
        | ((with_reducible apply Wo_gsF); (exact rfl); ((conv => lhs; simp -implicitDefEqProofs [*]) <;> exact rfl))
        | ((with_reducible apply Wd_gsT); (exact rfl); ((conv => lhs; simp -implicitDefEqProofs [*]) <;> exact rfl))
        | ((with_reducible apply Wd_gsF); (exact rfl); ((conv => lhs; simp -implicitDefEqProofs [*]) <;> exact rfl))
        | ((with_reducible first | apply W_srdl | apply W_rdl); kernel_rfl)
        | ((with_reducible apply Wd_nil); exact rfl)
        | ((with_reducible apply inB_o); rotate_left; exact rfl)
        | (intro h h'; try simp [*, -h] at h'))
      all_goals (unfold rowS; rw [List.map_take])
end Go.Proofs.YtdokejnokhicbaaGreatDoor

namespace Go.Proofs.YtdokejnokhicbaaGreatDoor
open Go Go.Ab
set_option linter.unusedSimpArgs false
set_option linter.unusedVariables false
attribute [-simp] Prog.bind getCs putCs
attribute [local simp ↓] run_bind
attribute [local simp ↓] runF_bind
attribute [local simp] run_getCsN runF_getCsN facetsC putCs_one run_putCsN runF_putCsN facetsW facetsH
theorem a13_1 : (lim Tryz.prog E47 X47).dat 10 [.sc (.string ⟨#[83, 69, 69, 68, 1, 0, 0, 0, 2, 0, 0, 0, 5, 0, 0, 0]⟩), iv 0, uv 9] = some [.sc (.string ⟨#[83, 69, 69, 68, 1, 0, 0, 0, 2, 0, 0, 0, 9, 0, 0, 0]⟩), iv 0] := by
  rw [d13 _ _ _ (by decide) (by unfold U; omega)]
  have : imgB ⟨#[83, 69, 69, 68, 1, 0, 0, 0, 2, 0, 0, 0, 5, 0, 0, 0]⟩ = true := by decide +kernel
  have h2 : (codeOf ⟨#[83, 69, 69, 68, 1, 0, 0, 0, 2, 0, 0, 0, 5, 0, 0, 0]⟩) = [5] := by decide +kernel
  have h3 : wordAt ⟨#[83, 69, 69, 68, 1, 0, 0, 0, 2, 0, 0, 0, 5, 0, 0, 0]⟩ 8 = 2 := by decide +kernel
  unfold plantR
  rw [if_pos this, h2, h3, if_pos (by simp)]
  have h4 : txtI [9] 2 = ⟨#[83, 69, 69, 68, 1, 0, 0, 0, 2, 0, 0, 0, 9, 0, 0, 0]⟩ := by decide +kernel
  simp [h4]
theorem a13_2 : (lim Tryz.prog E47 X47).dat 10 [.sc (.string ⟨#[83, 69, 69, 68]⟩), iv 0, uv 9] = some [.sc (.string ⟨#[]⟩), iv 7] := by
  rw [d13 _ _ _ (by decide) (by unfold U; omega)]
  have : imgB ⟨#[83, 69, 69, 68]⟩ = false := by decide +kernel
  unfold plantR
  rw [if_neg (by rw [this]; simp)]
set_option maxHeartbeats 4000000 in
theorem d7 : (lim Tryz.prog E47 X47).dat 4 [] = some [bv true] := by
  refine fnW Tryz.func4 rfl rfl bodyOk_4 rfl rtys_4 rfl ?_
  have u1 : ∀ x ∈ ([1, 2, 3] : List Int), U x := by simp [U]
  have h1 := d8 [1, 2, 3] (by simp) u1
  have h2 := d11 [1, 2, 3] (by simp) u1 ⟨#[97, 98]⟩
  have h3 := d8_long (List.replicate 1001 0) (by rw [List.length_replicate]; omega)
  have h4 := a13_1
  have h5 := a13_2
  have h6 := d15 [⟨#[97]⟩, ⟨#[98]⟩] 1 (by simp)
  have h7 := d15 [⟨#[97]⟩] 2 (by simp)
  unfold cutR15 at h6 h7
  rw [if_pos (by simp)] at h6
  rw [if_neg (by simp)] at h7
  simp at h1 h6 h7
  have e3 : rowW (List.replicate 1001 0) = List.replicate 1001 [uv 0] := List.map_replicate
  rw [e3] at h3
  clear e3 u1
  have rp3 : ∀ x : List AV, List.replicate 3 x = [x, x, x] := fun _ => rfl
  have rp2 : ∀ x : List AV, List.replicate 2 x = [x, x] := fun _ => rfl
  generalize txtI (mirC [1, 2, 3]) 0 = T at h1 h2
  repeat' (first
    | ((with_reducible apply Wo_u); (conv => lhs; simp -implicitDefEqProofs [*, -List.reduceReplicate]) <;> exact rfl)
    | ((with_reducible apply Wo_n); (conv => lhs; simp -implicitDefEqProofs [*, -List.reduceReplicate]) <;> exact rfl)
    | (with_reducible apply Wo_nil)
    | ((with_reducible apply Wo_gt); (exact rfl); ((conv => lhs; simp -implicitDefEqProofs [*, -List.reduceReplicate]) <;> exact rfl); (conv => lhs; simp -implicitDefEqProofs [*, -List.reduceReplicate]) <;> exact rfl)
    | ((with_reducible apply Wo_gf); (exact rfl); ((conv => lhs; simp -implicitDefEqProofs [*, -List.reduceReplicate]) <;> exact rfl); (exact rfl))
    | ((with_reducible apply Wo_gx); (exact rfl); ((conv => lhs; simp -implicitDefEqProofs [*, -List.reduceReplicate]) <;> exact rfl))
    | ((with_reducible apply Wo_gsT); (exact rfl); ((conv => lhs; simp -implicitDefEqProofs [*, -List.reduceReplicate]) <;> exact rfl))
    | ((with_reducible apply Wo_gsF); (exact rfl); ((conv => lhs; simp -implicitDefEqProofs [*, -List.reduceReplicate]) <;> exact rfl))
    | ((with_reducible apply ex2); (conv => lhs; simp -implicitDefEqProofs [*, -List.reduceReplicate]) <;> exact rfl)
    | (with_reducible apply W_ss) | (with_reducible apply W_srl) | (with_reducible apply W_rl)
    | ((with_reducible apply W_sc); (conv => lhs; simp -implicitDefEqProofs [*, -List.reduceReplicate]) <;> exact rfl)
    | ((with_reducible apply W_c); (conv => lhs; simp -implicitDefEqProofs [*, -List.reduceReplicate]) <;> exact rfl)
    | ((with_reducible apply W_srdl); kernel_rfl) | ((with_reducible apply W_rdl); kernel_rfl)
    | ((with_reducible apply Wd_u); (conv => lhs; simp -implicitDefEqProofs [*, -List.reduceReplicate]) <;> exact rfl)
    | ((with_reducible apply Wd_n); (conv => lhs; simp -implicitDefEqProofs [*, -List.reduceReplicate]) <;> exact rfl)
    | ((with_reducible apply Wd_nil); exact rfl)
    | ((with_reducible apply Wd_gsT); (exact rfl); ((conv => lhs; simp -implicitDefEqProofs [*, -List.reduceReplicate]) <;> exact rfl))
    | ((with_reducible apply Wd_gsF); (exact rfl); ((conv => lhs; simp -implicitDefEqProofs [*, -List.reduceReplicate]) <;> exact rfl))
    | ((with_reducible apply ex4); (conv => lhs; simp -implicitDefEqProofs [*, -List.reduceReplicate]) <;> exact rfl)
    | (with_reducible apply W_sblock) | (with_reducible apply W_block) | (with_reducible apply W_sskip) | (with_reducible apply W_skip) | (with_reducible apply W_sret) | (with_reducible apply W_ret) | (with_reducible apply W_sexit) | (with_reducible apply W_exit)
    | (with_reducible apply thenW_n) | (with_reducible apply thenW_r) | (with_reducible apply thenW_e) | (with_reducible apply inB_n) | (with_reducible apply inB_r) | (with_reducible apply inB_e) | ((with_reducible apply inB_o); rotate_left; exact rfl)
    | ((with_reducible apply EndQ_ret); (conv => lhs; simp -implicitDefEqProofs [*, -List.reduceReplicate]) <;> exact rfl) | ((with_reducible apply EndQ_normal); (conv => lhs; simp -implicitDefEqProofs [*, -List.reduceReplicate]) <;> exact rfl)
    | (intro h h'; try simp [*, -h] at h'))
  all_goals rfl
end Go.Proofs.YtdokejnokhicbaaGreatDoor
