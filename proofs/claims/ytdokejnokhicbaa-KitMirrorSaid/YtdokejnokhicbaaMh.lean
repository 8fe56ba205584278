/- Law 47: cutting a store; the fixed answers, walked. -/
import Derived.Test.YtdokejnokhicbaaMf
import Derived.Test.YtdokejnokhicbaaMg
namespace Go.Proofs.Ytdokejnokhicbaa
open Go Go.Ab
set_option linter.unusedSimpArgs false
set_option linter.unusedVariables false
abbrev rowS (l : List ByteArray) : List (List AV) := l.map fun x => [.sc (.string x)]
def cutR15 (l : List ByteArray) (n : Int) : List AV := if 0 ≤ n ∧ n ≤ l.length then [.agg [.sl false 1 (rowS (l.take n.toNat))], iv 0] else [.agg [.vec 1 []], iv 1]
set_option maxHeartbeats 4000000 in
theorem d15 (l : List ByteArray) (n : Int) (hl : l.length ≤ 1048576) : (lim Try.prog E47 X47).dat 15 [.agg [.sl false 1 (rowS l)], iv n] = some (cutR15 l n) := by
  refine fnW Try.func15 rfl rfl bodyOk_15 rfl rtys_15 rfl ?_
  unfold cutR15
  by_cases c1 : n < 0
  · rw [if_neg (by omega)]
    repeat' (first
      | ((with_reducible apply Wo_u); (conv => lhs; simp -implicitDefEqProofs [*]) <;> exact rfl)
      | ((with_reducible apply Wo_n); (conv => lhs; simp -implicitDefEqProofs [*]) <;> exact rfl)
      | (with_reducible apply Wo_nil)
      | ((with_reducible apply Wo_gt); (exact rfl); ((conv => lhs; simp -implicitDefEqProofs [*]) <;> exact rfl); (conv => lhs; simp -implicitDefEqProofs [*]) <;> exact rfl)
      | ((with_reducible apply Wo_gf); (exact rfl); ((conv => lhs; simp -implicitDefEqProofs [*]) <;> exact rfl); (exact rfl))
      | ((with_reducible apply Wo_gx); (exact rfl); ((conv => lhs; simp -implicitDefEqProofs [*]) <;> exact rfl))
      | ((with_reducible apply Wo_gsT); (exact rfl); ((conv => lhs; simp -implicitDefEqProofs [*]) <;> exact rfl))
      | ((with_reducible apply Wo_gsF); (exact rfl); ((conv => lhs; simp -implicitDefEqProofs [*]) <;> exact rfl))
      | ((with_reducible apply ex2); (conv => lhs; simp -implicitDefEqProofs [*]) <;> exact rfl)
      | (with_reducible apply W_ss) | (with_reducible apply W_srl) | (with_reducible apply W_rl)
      | ((with_reducible apply W_sc); (conv => lhs; simp -implicitDefEqProofs [*]) <;> exact rfl)
      | ((with_reducible apply W_c); (conv => lhs; simp -implicitDefEqProofs [*]) <;> exact rfl)
      | ((with_reducible apply W_srdl); kernel_rfl) | ((with_reducible apply W_rdl); kernel_rfl)
      | ((with_reducible apply Wd_u); (conv => lhs; simp -implicitDefEqProofs [*]) <;> exact rfl)
      | ((with_reducible apply Wd_n); (conv => lhs; simp -implicitDefEqProofs [*]) <;> exact rfl)
      | ((with_reducible apply Wd_nil); exact rfl)
      | ((with_reducible apply Wd_gsT); (exact rfl); ((conv => lhs; simp -implicitDefEqProofs [*]) <;> exact rfl))
      | ((with_reducible apply Wd_gsF); (exact rfl); ((conv => lhs; simp -implicitDefEqProofs [*]) <;> exact rfl))
      | ((with_reducible apply ex4); (conv => lhs; simp -implicitDefEqProofs [*]) <;> exact rfl)
      | (with_reducible apply W_sblock) | (with_reducible apply W_block) | (with_reducible apply W_sskip) | (with_reducible apply W_skip) | (with_reducible apply W_sret) | (with_reducible apply W_ret) | (with_reducible apply W_sexit) | (with_reducible apply W_exit)
      | (with_reducible apply thenW_n) | (with_reducible apply thenW_r) | (with_reducible apply thenW_e) | (with_reducible apply inB_n) | (with_reducible apply inB_r) | (with_reducible apply inB_e) | ((with_reducible apply inB_o); rotate_left; exact rfl)
      | ((with_reducible apply EndQ_ret); (conv => lhs; simp -implicitDefEqProofs [*]) <;> exact rfl) | ((with_reducible apply EndQ_normal); (conv => lhs; simp -implicitDefEqProofs [*]) <;> exact rfl)
      | (intro h h'; try simp [*, -h] at h'))
    all_goals rfl
  · by_cases c2 : (l.length : Int) < n
    · rw [if_neg (by omega)]
      repeat' (first
        | ((with_reducible apply Wo_u); (conv => lhs; simp -implicitDefEqProofs [*]) <;> exact rfl)
        | ((with_reducible apply Wo_n); (conv => lhs; simp -implicitDefEqProofs [*]) <;> exact rfl)
        | (with_reducible apply Wo_nil)
        | ((with_reducible apply Wo_gt); (exact rfl); ((conv => lhs; simp -implicitDefEqProofs [*]) <;> exact rfl); (conv => lhs; simp -implicitDefEqProofs [*]) <;> exact rfl)
        | ((with_reducible apply Wo_gf); (exact rfl); ((conv => lhs; simp -implicitDefEqProofs [*]) <;> exact rfl); (exact rfl))
        | ((with_reducible apply Wo_gx); (exact rfl); ((conv => lhs; simp -implicitDefEqProofs [*]) <;> exact rfl))
        | ((with_reducible apply Wo_gsT); (exact rfl); ((conv => lhs; simp -implicitDefEqProofs [*]) <;> exact rfl))
        | ((with_reducible apply Wo_gsF); (exact rfl); ((conv => lhs; simp -implicitDefEqProofs [*]) <;> exact rfl))
        | ((with_reducible apply ex2); (conv => lhs; simp -implicitDefEqProofs [*]) <;> exact rfl)
        | (with_reducible apply W_ss) | (with_reducible apply W_srl) | (with_reducible apply W_rl)
        | ((with_reducible apply W_sc); (conv => lhs; simp -implicitDefEqProofs [*]) <;> exact rfl)
        | ((with_reducible apply W_c); (conv => lhs; simp -implicitDefEqProofs [*]) <;> exact rfl)
        | ((with_reducible apply W_srdl); kernel_rfl) | ((with_reducible apply W_rdl); kernel_rfl)
        | ((with_reducible apply Wd_u); (conv => lhs; simp -implicitDefEqProofs [*]) <;> exact rfl)
        | ((with_reducible apply Wd_n); (conv => lhs; simp -implicitDefEqProofs [*]) <;> exact rfl)
        | ((with_reducible apply Wd_nil); exact rfl)
        | ((with_reducible apply Wd_gsT); (exact rfl); ((conv => lhs; simp -implicitDefEqProofs [*]) <;> exact rfl))
        | ((with_reducible apply Wd_gsF); (exact rfl); ((conv => lhs; simp -implicitDefEqProofs [*]) <;> exact rfl))
        | ((with_reducible apply ex4); (conv => lhs; simp -implicitDefEqProofs [*]) <;> exact rfl)
        | (with_reducible apply W_sblock) | (with_reducible apply W_block) | (with_reducible apply W_sskip) | (with_reducible apply W_skip) | (with_reducible apply W_sret) | (with_reducible apply W_ret) | (with_reducible apply W_sexit) | (with_reducible apply W_exit)
        | (with_reducible apply thenW_n) | (with_reducible apply thenW_r) | (with_reducible apply thenW_e) | (with_reducible apply inB_n) | (with_reducible apply inB_r) | (with_reducible apply inB_e) | ((with_reducible apply inB_o); rotate_left; exact rfl)
        | ((with_reducible apply EndQ_ret); (conv => lhs; simp -implicitDefEqProofs [*]) <;> exact rfl) | ((with_reducible apply EndQ_normal); (conv => lhs; simp -implicitDefEqProofs [*]) <;> exact rfl)
        | (intro h h'; try simp [*, -h] at h'))
      all_goals rfl
    · rw [if_pos (by omega)]
      obtain ⟨k, rfl⟩ : ∃ k : Nat, n = k := ⟨n.toNat, by omega⟩
      have hk : k ≤ l.length := by omega
      rw [Int.toNat_natCast]
      have n1 : k * 16 ≤ 140737488355328 := by omega
      have n2 : k ≤ 9223372036854775807 := by omega
      have n3 : (k : Int) * 16 ≤ 140737488355328 := by omega
      have n4 : (k : Int) ≤ 9223372036854775807 := by omega
      have n5 : (0 : Int) ≤ k := by omega
      have n6 : (k : Int) ≤ l.length := by omega
      have n7 : min k l.length = k := by omega
      have n8 : k ≤ 140737488355328 := by omega
      repeat' (first
        | ((with_reducible apply Wo_u); (conv => lhs; simp -implicitDefEqProofs [*]) <;> exact rfl)
        | ((with_reducible apply Wo_n); (conv => lhs; simp -implicitDefEqProofs [*]) <;> exact rfl)
        | (with_reducible apply Wo_nil)
        | ((with_reducible apply Wo_gt); (exact rfl); ((conv => lhs; simp -implicitDefEqProofs [*]) <;> exact rfl); (conv => lhs; simp -implicitDefEqProofs [*]) <;> exact rfl)
        | ((with_reducible apply Wo_gf); (exact rfl); ((conv => lhs; simp -implicitDefEqProofs [*]) <;> exact rfl); (exact rfl))
        | ((with_reducible apply Wo_gx); (exact rfl); ((conv => lhs; simp -implicitDefEqProofs [*]) <;> exact rfl))
        | ((with_reducible apply Wo_gsT); (exact rfl); ((conv => lhs; simp -implicitDefEqProofs [*]) <;> exact rfl))
        | ((with_reducible apply Wo_gsF); (exact rfl); ((conv => lhs; simp -implicitDefEqProofs [*]) <;> exact rfl))
        | ((with_reducible apply ex2); (conv => lhs; simp -implicitDefEqProofs [*]) <;> exact rfl)
        | (with_reducible apply W_ss) | (with_reducible apply W_srl) | (with_reducible apply W_rl)
        | ((with_reducible apply W_sc); (conv => lhs; simp -implicitDefEqProofs [*]) <;> exact rfl)
        | ((with_reducible apply W_c); (conv => lhs; simp -implicitDefEqProofs [*]) <;> exact rfl)
        | ((with_reducible apply W_srdl); kernel_rfl) | ((with_reducible apply W_rdl); kernel_rfl)
        | ((with_reducible apply Wd_u); (conv => lhs; simp -implicitDefEqProofs [*]) <;> exact rfl)
        | ((with_reducible apply Wd_n); (conv => lhs; simp -implicitDefEqProofs [*]) <;> exact rfl)
        | ((with_reducible apply Wd_nil); exact rfl)
        | ((with_reducible apply Wd_gsT); (exact rfl); ((conv => lhs; simp -implicitDefEqProofs [*]) <;> exact rfl))
        | ((with_reducible apply Wd_gsF); (exact rfl); ((conv => lhs; simp -implicitDefEqProofs [*]) <;> exact rfl))
        | ((with_reducible apply ex4); (conv => lhs; simp -implicitDefEqProofs [*]) <;> exact rfl)
        | (with_reducible apply W_sblock) | (with_reducible apply W_block) | (with_reducible apply W_sskip) | (with_reducible apply W_skip) | (with_reducible apply W_sret) | (with_reducible apply W_ret) | (with_reducible apply W_sexit) | (with_reducible apply W_exit)
        | (with_reducible apply thenW_n) | (with_reducible apply thenW_r) | (with_reducible apply thenW_e) | (with_reducible apply inB_n) | (with_reducible apply inB_r) | (with_reducible apply inB_e) | ((with_reducible apply inB_o); rotate_left; exact rfl)
        | ((with_reducible apply EndQ_ret); (conv => lhs; simp -implicitDefEqProofs [*]) <;> exact rfl) | ((with_reducible apply EndQ_normal); (conv => lhs; simp -implicitDefEqProofs [*]) <;> exact rfl)
        | (intro h h'; try simp [*, -h] at h'))
      all_goals (unfold rowS; rw [List.map_take])
def cutR16 (l : List ByteArray) (n : Int) : List AV := if 0 ≤ n ∧ n ≤ l.length then [.agg [.vec 1 (rowS (l.take n.toNat))], iv 0] else [.agg [.vec 1 []], iv 1]
set_option maxHeartbeats 4000000 in
theorem d16 (l : List ByteArray) (n : Int) (hl : l.length ≤ 1048576) : (lim Try.prog E47 X47).dat 16 [.agg [.sl false 1 (rowS l)], iv n] = some (cutR16 l n) := by
  refine fnW Try.func16 rfl rfl bodyOk_16 rfl rtys_16 rfl ?_
  unfold cutR16
  by_cases c1 : n < 0
  · rw [if_neg (by omega)]
    repeat' (first
      | ((with_reducible apply Wo_u); (conv => lhs; simp -implicitDefEqProofs [*]) <;> exact rfl)
      | ((with_reducible apply Wo_n); (conv => lhs; simp -implicitDefEqProofs [*]) <;> exact rfl)
      | (with_reducible apply Wo_nil)
      | ((with_reducible apply Wo_gt); (exact rfl); ((conv => lhs; simp -implicitDefEqProofs [*]) <;> exact rfl); (conv => lhs; simp -implicitDefEqProofs [*]) <;> exact rfl)
      | ((with_reducible apply Wo_gf); (exact rfl); ((conv => lhs; simp -implicitDefEqProofs [*]) <;> exact rfl); (exact rfl))
      | ((with_reducible apply Wo_gx); (exact rfl); ((conv => lhs; simp -implicitDefEqProofs [*]) <;> exact rfl))
      | ((with_reducible apply Wo_gsT); (exact rfl); ((conv => lhs; simp -implicitDefEqProofs [*]) <;> exact rfl))
      | ((with_reducible apply Wo_gsF); (exact rfl); ((conv => lhs; simp -implicitDefEqProofs [*]) <;> exact rfl))
      | ((with_reducible apply ex2); (conv => lhs; simp -implicitDefEqProofs [*]) <;> exact rfl)
      | (with_reducible apply W_ss) | (with_reducible apply W_srl) | (with_reducible apply W_rl)
      | ((with_reducible apply W_sc); (conv => lhs; simp -implicitDefEqProofs [*]) <;> exact rfl)
      | ((with_reducible apply W_c); (conv => lhs; simp -implicitDefEqProofs [*]) <;> exact rfl)
      | ((with_reducible apply W_srdl); kernel_rfl) | ((with_reducible apply W_rdl); kernel_rfl)
      | ((with_reducible apply Wd_u); (conv => lhs; simp -implicitDefEqProofs [*]) <;> exact rfl)
      | ((with_reducible apply Wd_n); (conv => lhs; simp -implicitDefEqProofs [*]) <;> exact rfl)
      | ((with_reducible apply Wd_nil); exact rfl)
      | ((with_reducible apply Wd_gsT); (exact rfl); ((conv => lhs; simp -implicitDefEqProofs [*]) <;> exact rfl))
      | ((with_reducible apply Wd_gsF); (exact rfl); ((conv => lhs; simp -implicitDefEqProofs [*]) <;> exact rfl))
      | ((with_reducible apply ex4); (conv => lhs; simp -implicitDefEqProofs [*]) <;> exact rfl)
      | (with_reducible apply W_sblock) | (with_reducible apply W_block) | (with_reducible apply W_sskip) | (with_reducible apply W_skip) | (with_reducible apply W_sret) | (with_reducible apply W_ret) | (with_reducible apply W_sexit) | (with_reducible apply W_exit)
      | (with_reducible apply thenW_n) | (with_reducible apply thenW_r) | (with_reducible apply thenW_e) | (with_reducible apply inB_n) | (with_reducible apply inB_r) | (with_reducible apply inB_e) | ((with_reducible apply inB_o); rotate_left; exact rfl)
      | ((with_reducible apply EndQ_ret); (conv => lhs; simp -implicitDefEqProofs [*]) <;> exact rfl) | ((with_reducible apply EndQ_normal); (conv => lhs; simp -implicitDefEqProofs [*]) <;> exact rfl)
      | (intro h h'; try simp [*, -h] at h'))
    all_goals rfl
  · by_cases c2 : (l.length : Int) < n
    · rw [if_neg (by omega)]
      repeat' (first
        | ((with_reducible apply Wo_u); (conv => lhs; simp -implicitDefEqProofs [*]) <;> exact rfl)
        | ((with_reducible apply Wo_n); (conv => lhs; simp -implicitDefEqProofs [*]) <;> exact rfl)
        | (with_reducible apply Wo_nil)
        | ((with_reducible apply Wo_gt); (exact rfl); ((conv => lhs; simp -implicitDefEqProofs [*]) <;> exact rfl); (conv => lhs; simp -implicitDefEqProofs [*]) <;> exact rfl)
        | ((with_reducible apply Wo_gf); (exact rfl); ((conv => lhs; simp -implicitDefEqProofs [*]) <;> exact rfl); (exact rfl))
        | ((with_reducible apply Wo_gx); (exact rfl); ((conv => lhs; simp -implicitDefEqProofs [*]) <;> exact rfl))
        | ((with_reducible apply Wo_gsT); (exact rfl); ((conv => lhs; simp -implicitDefEqProofs [*]) <;> exact rfl))
        | ((with_reducible apply Wo_gsF); (exact rfl); ((conv => lhs; simp -implicitDefEqProofs [*]) <;> exact rfl))
        | ((with_reducible apply ex2); (conv => lhs; simp -implicitDefEqProofs [*]) <;> exact rfl)
        | (with_reducible apply W_ss) | (with_reducible apply W_srl) | (with_reducible apply W_rl)
        | ((with_reducible apply W_sc); (conv => lhs; simp -implicitDefEqProofs [*]) <;> exact rfl)
        | ((with_reducible apply W_c); (conv => lhs; simp -implicitDefEqProofs [*]) <;> exact rfl)
        | ((with_reducible apply W_srdl); kernel_rfl) | ((with_reducible apply W_rdl); kernel_rfl)
        | ((with_reducible apply Wd_u); (conv => lhs; simp -implicitDefEqProofs [*]) <;> exact rfl)
        | ((with_reducible apply Wd_n); (conv => lhs; simp -implicitDefEqProofs [*]) <;> exact rfl)
        | ((with_reducible apply Wd_nil); exact rfl)
        | ((with_reducible apply Wd_gsT); (exact rfl); ((conv => lhs; simp -implicitDefEqProofs [*]) <;> exact rfl))
        | ((with_reducible apply Wd_gsF); (exact rfl); ((conv => lhs; simp -implicitDefEqProofs [*]) <;> exact rfl))
        | ((with_reducible apply ex4); (conv => lhs; simp -implicitDefEqProofs [*]) <;> exact rfl)
        | (with_reducible apply W_sblock) | (with_reducible apply W_block) | (with_reducible apply W_sskip) | (with_reducible apply W_skip) | (with_reducible apply W_sret) | (with_reducible apply W_ret) | (with_reducible apply W_sexit) | (with_reducible apply W_exit)
        | (with_reducible apply thenW_n) | (with_reducible apply thenW_r) | (with_reducible apply thenW_e) | (with_reducible apply inB_n) | (with_reducible apply inB_r) | (with_reducible apply inB_e) | ((with_reducible apply inB_o); rotate_left; exact rfl)
        | ((with_reducible apply EndQ_ret); (conv => lhs; simp -implicitDefEqProofs [*]) <;> exact rfl) | ((with_reducible apply EndQ_normal); (conv => lhs; simp -implicitDefEqProofs [*]) <;> exact rfl)
        | (intro h h'; try simp [*, -h] at h'))
      all_goals rfl
    · rw [if_pos (by omega)]
      obtain ⟨k, rfl⟩ : ∃ k : Nat, n = k := ⟨n.toNat, by omega⟩
      have hk : k ≤ l.length := by omega
      rw [Int.toNat_natCast]
      have n1 : k * 16 ≤ 140737488355328 := by omega
      have n2 : k ≤ 9223372036854775807 := by omega
      have n3 : (k : Int) * 16 ≤ 140737488355328 := by omega
      have n4 : (k : Int) ≤ 9223372036854775807 := by omega
      have n5 : (0 : Int) ≤ k := by omega
      have n6 : (k : Int) ≤ l.length := by omega
      have n7 : min k l.length = k := by omega
      have n8 : k ≤ 140737488355328 := by omega
      repeat' (first
        | ((with_reducible apply Wo_u); (conv => lhs; simp -implicitDefEqProofs [*]) <;> exact rfl)
        | ((with_reducible apply Wo_n); (conv => lhs; simp -implicitDefEqProofs [*]) <;> exact rfl)
        | (with_reducible apply Wo_nil)
        | ((with_reducible apply Wo_gt); (exact rfl); ((conv => lhs; simp -implicitDefEqProofs [*]) <;> exact rfl); (conv => lhs; simp -implicitDefEqProofs [*]) <;> exact rfl)
        | ((with_reducible apply Wo_gf); (exact rfl); ((conv => lhs; simp -implicitDefEqProofs [*]) <;> exact rfl); (exact rfl))
        | ((with_reducible apply Wo_gx); (exact rfl); ((conv => lhs; simp -implicitDefEqProofs [*]) <;> exact rfl))
        | ((with_reducible apply Wo_gsT); (exact rfl); ((conv => lhs; simp -implicitDefEqProofs [*]) <;> exact rfl))
        | ((with_reducible apply Wo_gsF); (exact rfl); ((conv => lhs; simp -implicitDefEqProofs [*]) <;> exact rfl))
        | ((with_reducible apply ex2); (conv => lhs; simp -implicitDefEqProofs [*]) <;> exact rfl)
        | (with_reducible apply W_ss) | (with_reducible apply W_srl) | (with_reducible apply W_rl)
        | ((with_reducible apply W_sc); (conv => lhs; simp -implicitDefEqProofs [*]) <;> exact rfl)
        | ((with_reducible apply W_c); (conv => lhs; simp -implicitDefEqProofs [*]) <;> exact rfl)
        | ((with_reducible apply W_srdl); kernel_rfl) | ((with_reducible apply W_rdl); kernel_rfl)
        | ((with_reducible apply Wd_u); (conv => lhs; simp -implicitDefEqProofs [*]) <;> exact rfl)
        | ((with_reducible apply Wd_n); (conv => lhs; simp -implicitDefEqProofs [*]) <;> exact rfl)
        | ((with_reducible apply Wd_nil); exact rfl)
        | ((with_reducible apply Wd_gsT); (exact rfl); ((conv => lhs; simp -implicitDefEqProofs [*]) <;> exact rfl))
        | ((with_reducible apply Wd_gsF); (exact rfl); ((conv => lhs; simp -implicitDefEqProofs [*]) <;> exact rfl))
        | ((with_reducible apply ex4); (conv => lhs; simp -implicitDefEqProofs [*]) <;> exact rfl)
        | (with_reducible apply W_sblock) | (with_reducible apply W_block) | (with_reducible apply W_sskip) | (with_reducible apply W_skip) | (with_reducible apply W_sret) | (with_reducible apply W_ret) | (with_reducible apply W_sexit) | (with_reducible apply W_exit)
        | (with_reducible apply thenW_n) | (with_reducible apply thenW_r) | (with_reducible apply thenW_e) | (with_reducible apply inB_n) | (with_reducible apply inB_r) | (with_reducible apply inB_e) | ((with_reducible apply inB_o); rotate_left; exact rfl)
        | ((with_reducible apply EndQ_ret); (conv => lhs; simp -implicitDefEqProofs [*]) <;> exact rfl) | ((with_reducible apply EndQ_normal); (conv => lhs; simp -implicitDefEqProofs [*]) <;> exact rfl)
        | (intro h h'; try simp [*, -h] at h'))
      all_goals (unfold rowS; rw [List.map_take])
set_option maxHeartbeats 4000000 in
theorem d17 (l : List ByteArray) (hl : l.length ≤ 1048576) : (lim Try.prog E47 X47).dat 17 [.agg [.sl false 1 (rowS l)], .agg [.sl false 1 (rowS l)]] = some [bv true] := by
  refine fnW Try.func17 rfl rfl bodyOk_17 rfl rtys_17 rfl ?_
  repeat' (first
    | ((with_reducible apply Wo_u); (conv => lhs; simp -implicitDefEqProofs [*]) <;> exact rfl)
    | ((with_reducible apply Wo_n); (conv => lhs; simp -implicitDefEqProofs [*]) <;> exact rfl)
    | (with_reducible apply Wo_nil)
    | ((with_reducible apply Wo_gt); (exact rfl); ((conv => lhs; simp -implicitDefEqProofs [*]) <;> exact rfl); (conv => lhs; simp -implicitDefEqProofs [*]) <;> exact rfl)
    | ((with_reducible apply Wo_gf); (exact rfl); ((conv => lhs; simp -implicitDefEqProofs [*]) <;> exact rfl); (exact rfl))
    | ((with_reducible apply Wo_gx); (exact rfl); ((conv => lhs; simp -implicitDefEqProofs [*]) <;> exact rfl))
    | ((with_reducible apply Wo_gsT); (exact rfl); ((conv => lhs; simp -implicitDefEqProofs [*]) <;> exact rfl))
    | ((with_reducible apply Wo_gsF); (exact rfl); ((conv => lhs; simp -implicitDefEqProofs [*]) <;> exact rfl))
    | ((with_reducible apply ex2); (conv => lhs; simp -implicitDefEqProofs [*]) <;> exact rfl)
    | (with_reducible apply W_ss) | (with_reducible apply W_srl) | (with_reducible apply W_rl)
    | ((with_reducible apply W_sc); (conv => lhs; simp -implicitDefEqProofs [*]) <;> exact rfl)
    | ((with_reducible apply W_c); (conv => lhs; simp -implicitDefEqProofs [*]) <;> exact rfl)
    | ((with_reducible apply W_srdl); kernel_rfl) | ((with_reducible apply W_rdl); kernel_rfl)
    | ((with_reducible apply Wd_u); (conv => lhs; simp -implicitDefEqProofs [*]) <;> exact rfl)
    | ((with_reducible apply Wd_n); (conv => lhs; simp -implicitDefEqProofs [*]) <;> exact rfl)
    | ((with_reducible apply Wd_nil); exact rfl)
    | ((with_reducible apply Wd_gsT); (exact rfl); ((conv => lhs; simp -implicitDefEqProofs [*]) <;> exact rfl))
    | ((with_reducible apply Wd_gsF); (exact rfl); ((conv => lhs; simp -implicitDefEqProofs [*]) <;> exact rfl))
    | ((with_reducible apply ex4); (conv => lhs; simp -implicitDefEqProofs [*]) <;> exact rfl)
    | (with_reducible apply W_sblock) | (with_reducible apply W_block) | (with_reducible apply W_sskip) | (with_reducible apply W_skip) | (with_reducible apply W_sret) | (with_reducible apply W_ret) | (with_reducible apply W_sexit) | (with_reducible apply W_exit)
    | (with_reducible apply thenW_n) | (with_reducible apply thenW_r) | (with_reducible apply thenW_e) | (with_reducible apply inB_n) | (with_reducible apply inB_r) | (with_reducible apply inB_e) | ((with_reducible apply inB_o); rotate_left; exact rfl)
    | ((with_reducible apply EndQ_ret); (conv => lhs; simp -implicitDefEqProofs [*]) <;> exact rfl) | ((with_reducible apply EndQ_normal); (conv => lhs; simp -implicitDefEqProofs [*]) <;> exact rfl)
    | (intro h h'; try simp [*, -h] at h'))
  refine W_loopS (n := l.length) (fun s0 m s => ∃ k : Nat, m = l.length - k ∧ k ≤ l.length ∧ s.fr 5 = iv k ∧ s.fr 2 = s0.fr 2 ∧ s.fr 3 = s0.fr 3 ∧ s.hp ⟨0, 2, 0⟩ = s0.hp ⟨0, 2, 0⟩ ∧ s.hp ⟨0, 3, 0⟩ = s0.hp ⟨0, 3, 0⟩) ⟨0, by simp, by omega, by simp, by simp, by simp, by simp, by simp⟩ ?_
  rintro m ⟨fr, hp⟩ ⟨k, rfl, hk, hs5, hs2, hs3, hh2, hh3⟩
  simp at hs5 hs2 hs3 hh2 hh3
  by_cases hlt : k < l.length
  · have hw := wrapN (k := k) (by omega)
    have hlI : (k : Int) < l.length := by omega
    have hg := List.getElem?_eq_getElem hlt
    generalize l[k] = x at hg
    repeat' (first
      | ((with_reducible apply Wo_u); (conv => lhs; simp -implicitDefEqProofs [*]) <;> exact rfl)
      | ((with_reducible apply Wo_n); (conv => lhs; simp -implicitDefEqProofs [*]) <;> exact rfl)
      | (with_reducible apply Wo_nil)
      | ((with_reducible apply Wo_gt); (exact rfl); ((conv => lhs; simp -implicitDefEqProofs [*]) <;> exact rfl); (conv => lhs; simp -implicitDefEqProofs [*]) <;> exact rfl)
      | ((with_reducible apply Wo_gf); (exact rfl); ((conv => lhs; simp -implicitDefEqProofs [*]) <;> exact rfl); (exact rfl))
      | ((with_reducible apply Wo_gx); (exact rfl); ((conv => lhs; simp -implicitDefEqProofs [*]) <;> exact rfl))
      | ((with_reducible apply Wo_gsT); (exact rfl); ((conv => lhs; simp -implicitDefEqProofs [*]) <;> exact rfl))
      | ((with_reducible apply Wo_gsF); (exact rfl); ((conv => lhs; simp -implicitDefEqProofs [*]) <;> exact rfl))
      | ((with_reducible apply ex2); (conv => lhs; simp -implicitDefEqProofs [*]) <;> exact rfl)
      | (with_reducible apply W_ss) | (with_reducible apply W_srl) | (with_reducible apply W_rl)
      | ((with_reducible apply W_sc); (conv => lhs; simp -implicitDefEqProofs [*]) <;> exact rfl)
      | ((with_reducible apply W_c); (conv => lhs; simp -implicitDefEqProofs [*]) <;> exact rfl)
      | ((with_reducible apply W_srdl); kernel_rfl) | ((with_reducible apply W_rdl); kernel_rfl)
      | ((with_reducible apply Wd_u); (conv => lhs; simp -implicitDefEqProofs [*]) <;> exact rfl)
      | ((with_reducible apply Wd_n); (conv => lhs; simp -implicitDefEqProofs [*]) <;> exact rfl)
      | ((with_reducible apply Wd_nil); exact rfl)
      | ((with_reducible apply Wd_gsT); (exact rfl); ((conv => lhs; simp -implicitDefEqProofs [*]) <;> exact rfl))
      | ((with_reducible apply Wd_gsF); (exact rfl); ((conv => lhs; simp -implicitDefEqProofs [*]) <;> exact rfl))
      | ((with_reducible apply ex4); (conv => lhs; simp -implicitDefEqProofs [*]) <;> exact rfl)
      | (with_reducible apply W_sblock) | (with_reducible apply W_block) | (with_reducible apply W_sskip) | (with_reducible apply W_skip) | (with_reducible apply W_sret) | (with_reducible apply W_ret) | (with_reducible apply W_sexit) | (with_reducible apply W_exit)
      | (with_reducible apply thenW_n) | (with_reducible apply thenW_r) | (with_reducible apply thenW_e) | (with_reducible apply inB_n) | (with_reducible apply inB_r) | (with_reducible apply inB_e) | ((with_reducible apply inB_o); rotate_left; exact rfl)
      | ((with_reducible apply EndQ_ret); (conv => lhs; simp -implicitDefEqProofs [*]) <;> exact rfl) | ((with_reducible apply EndQ_normal); (conv => lhs; simp -implicitDefEqProofs [*]) <;> exact rfl)
      | (intro h h'; try simp [*, -h] at h'))
    all_goals exact ⟨_, by omega, k + 1, rfl, hlt, by simp [*], by simp [*], by simp [*], by simp [*], by simp [*]⟩
  · obtain rfl : k = l.length := by omega
    repeat' (first
      | ((with_reducible apply Wo_u); (conv => lhs; simp -implicitDefEqProofs [*]) <;> exact rfl)
      | ((with_reducible apply Wo_n); (conv => lhs; simp -implicitDefEqProofs [*]) <;> exact rfl)
      | (with_reducible apply Wo_nil)
      | ((with_reducible apply Wo_gt); (exact rfl); ((conv => lhs; simp -implicitDefEqProofs [*]) <;> exact rfl); (conv => lhs; simp -implicitDefEqProofs [*]) <;> exact rfl)
      | ((with_reducible apply Wo_gf); (exact rfl); ((conv => lhs; simp -implicitDefEqProofs [*]) <;> exact rfl); (exact rfl))
      | ((with_reducible apply Wo_gx); (exact rfl); ((conv => lhs; simp -implicitDefEqProofs [*]) <;> exact rfl))
      | ((with_reducible apply Wo_gsT); (exact rfl); ((conv => lhs; simp -implicitDefEqProofs [*]) <;> exact rfl))
      | ((with_reducible apply Wo_gsF); (exact rfl); ((conv => lhs; simp -implicitDefEqProofs [*]) <;> exact rfl))
      | ((with_reducible apply ex2); (conv => lhs; simp -implicitDefEqProofs [*]) <;> exact rfl)
      | (with_reducible apply W_ss) | (with_reducible apply W_srl) | (with_reducible apply W_rl)
      | ((with_reducible apply W_sc); (conv => lhs; simp -implicitDefEqProofs [*]) <;> exact rfl)
      | ((with_reducible apply W_c); (conv => lhs; simp -implicitDefEqProofs [*]) <;> exact rfl)
      | ((with_reducible apply W_srdl); kernel_rfl) | ((with_reducible apply W_rdl); kernel_rfl)
      | ((with_reducible apply Wd_u); (conv => lhs; simp -implicitDefEqProofs [*]) <;> exact rfl)
      | ((with_reducible apply Wd_n); (conv => lhs; simp -implicitDefEqProofs [*]) <;> exact rfl)
      | ((with_reducible apply Wd_nil); exact rfl)
      | ((with_reducible apply Wd_gsT); (exact rfl); ((conv => lhs; simp -implicitDefEqProofs [*]) <;> exact rfl))
      | ((with_reducible apply Wd_gsF); (exact rfl); ((conv => lhs; simp -implicitDefEqProofs [*]) <;> exact rfl))
      | ((with_reducible apply ex4); (conv => lhs; simp -implicitDefEqProofs [*]) <;> exact rfl)
      | (with_reducible apply W_sblock) | (with_reducible apply W_block) | (with_reducible apply W_sskip) | (with_reducible apply W_skip) | (with_reducible apply W_sret) | (with_reducible apply W_ret) | (with_reducible apply W_sexit) | (with_reducible apply W_exit)
      | (with_reducible apply thenW_n) | (with_reducible apply thenW_r) | (with_reducible apply thenW_e) | (with_reducible apply inB_n) | (with_reducible apply inB_r) | (with_reducible apply inB_e) | ((with_reducible apply inB_o); rotate_left; exact rfl)
      | ((with_reducible apply EndQ_ret); (conv => lhs; simp -implicitDefEqProofs [*]) <;> exact rfl) | ((with_reducible apply EndQ_normal); (conv => lhs; simp -implicitDefEqProofs [*]) <;> exact rfl)
      | (intro h h'; try simp [*, -h] at h'))
    all_goals rfl
set_option maxHeartbeats 4000000 in
theorem d12 (a b : List Int) (hl : a.length ≤ 1048576) (hab : a.length = b.length) : (lim Try.prog E47 X47).dat 12 [.agg [.sl false 1 (rowW a), iv 0], .agg [.sl false 1 (rowW b), iv 0]] = some [bv (decide (a = b))] := by
  refine fnW Try.func12 rfl rfl bodyOk_12 rfl rtys_12 rfl ?_
  obtain ⟨n, hn⟩ : ∃ n, b.length = n := ⟨_, rfl⟩
  rw [hn] at hab
  repeat' (first
    | ((with_reducible apply Wo_u); (conv => lhs; simp -implicitDefEqProofs [*]) <;> exact rfl)
    | ((with_reducible apply Wo_n); (conv => lhs; simp -implicitDefEqProofs [*]) <;> exact rfl)
    | (with_reducible apply Wo_nil)
    | ((with_reducible apply Wo_gt); (exact rfl); ((conv => lhs; simp -implicitDefEqProofs [*]) <;> exact rfl); (conv => lhs; simp -implicitDefEqProofs [*]) <;> exact rfl)
    | ((with_reducible apply Wo_gf); (exact rfl); ((conv => lhs; simp -implicitDefEqProofs [*]) <;> exact rfl); (exact rfl))
    | ((with_reducible apply Wo_gx); (exact rfl); ((conv => lhs; simp -implicitDefEqProofs [*]) <;> exact rfl))
    | ((with_reducible apply Wo_gsT); (exact rfl); ((conv => lhs; simp -implicitDefEqProofs [*]) <;> exact rfl))
    | ((with_reducible apply Wo_gsF); (exact rfl); ((conv => lhs; simp -implicitDefEqProofs [*]) <;> exact rfl))
    | ((with_reducible apply ex2); (conv => lhs; simp -implicitDefEqProofs [*]) <;> exact rfl)
    | (with_reducible apply W_ss) | (with_reducible apply W_srl) | (with_reducible apply W_rl)
    | ((with_reducible apply W_sc); (conv => lhs; simp -implicitDefEqProofs [*]) <;> exact rfl)
    | ((with_reducible apply W_c); (conv => lhs; simp -implicitDefEqProofs [*]) <;> exact rfl)
    | ((with_reducible apply W_srdl); kernel_rfl) | ((with_reducible apply W_rdl); kernel_rfl)
    | ((with_reducible apply Wd_u); (conv => lhs; simp -implicitDefEqProofs [*]) <;> exact rfl)
    | ((with_reducible apply Wd_n); (conv => lhs; simp -implicitDefEqProofs [*]) <;> exact rfl)
    | ((with_reducible apply Wd_nil); exact rfl)
    | ((with_reducible apply Wd_gsT); (exact rfl); ((conv => lhs; simp -implicitDefEqProofs [*]) <;> exact rfl))
    | ((with_reducible apply Wd_gsF); (exact rfl); ((conv => lhs; simp -implicitDefEqProofs [*]) <;> exact rfl))
    | ((with_reducible apply ex4); (conv => lhs; simp -implicitDefEqProofs [*]) <;> exact rfl)
    | (with_reducible apply W_sblock) | (with_reducible apply W_block) | (with_reducible apply W_sskip) | (with_reducible apply W_skip) | (with_reducible apply W_sret) | (with_reducible apply W_ret) | (with_reducible apply W_sexit) | (with_reducible apply W_exit)
    | (with_reducible apply thenW_n) | (with_reducible apply thenW_r) | (with_reducible apply thenW_e) | (with_reducible apply inB_n) | (with_reducible apply inB_r) | (with_reducible apply inB_e) | ((with_reducible apply inB_o); rotate_left; exact rfl)
    | ((with_reducible apply EndQ_ret); (conv => lhs; simp -implicitDefEqProofs [*]) <;> exact rfl) | ((with_reducible apply EndQ_normal); (conv => lhs; simp -implicitDefEqProofs [*]) <;> exact rfl)
    | (intro h h'; try simp [*, -h] at h'))
  refine W_loopS (n := n) (fun s0 m s => ∃ k : Nat, m = n - k ∧ k ≤ n ∧ a.take k = b.take k ∧ s.fr 5 = iv k ∧ s.fr 2 = s0.fr 2 ∧ s.fr 3 = s0.fr 3 ∧ s.hp ⟨0, 2, 0⟩ = s0.hp ⟨0, 2, 0⟩ ∧ s.hp ⟨0, 3, 0⟩ = s0.hp ⟨0, 3, 0⟩) ⟨0, by simp, by omega, by simp, by simp, by simp, by simp, by simp, by simp⟩ ?_
  rintro m ⟨fr, hp⟩ ⟨k, rfl, hk, htk, hs5, hs2, hs3, hh2, hh3⟩
  simp at hs5 hs2 hs3 hh2 hh3
  by_cases hlt : k < n
  · have hw := wrapN (k := k) (by omega)
    have hlI : (k : Int) < n := by omega
    have ha := List.getElem?_eq_getElem (l := a) (i := k) (by omega)
    have hb := List.getElem?_eq_getElem (l := b) (i := k) (by omega)
    obtain ⟨x, hx⟩ : ∃ x, a[k] = x := ⟨_, rfl⟩
    obtain ⟨y, hy⟩ : ∃ y, b[k] = y := ⟨_, rfl⟩
    rw [hx] at ha
    rw [hy] at hb
    by_cases hxy : x = y
    · subst hxy
      have htk' : a.take (k + 1) = b.take (k + 1) := by rw [List.take_add_one, List.take_add_one, htk, ha, hb]
      have htk1 := Lib.hid htk'
      clear htk htk'
      repeat' (first
        | ((with_reducible apply Wo_u); (conv => lhs; simp -implicitDefEqProofs [*]) <;> exact rfl)
        | ((with_reducible apply Wo_n); (conv => lhs; simp -implicitDefEqProofs [*]) <;> exact rfl)
        | (with_reducible apply Wo_nil)
        | ((with_reducible apply Wo_gt); (exact rfl); ((conv => lhs; simp -implicitDefEqProofs [*]) <;> exact rfl); (conv => lhs; simp -implicitDefEqProofs [*]) <;> exact rfl)
        | ((with_reducible apply Wo_gf); (exact rfl); ((conv => lhs; simp -implicitDefEqProofs [*]) <;> exact rfl); (exact rfl))
        | ((with_reducible apply Wo_gx); (exact rfl); ((conv => lhs; simp -implicitDefEqProofs [*]) <;> exact rfl))
        | ((with_reducible apply Wo_gsT); (exact rfl); ((conv => lhs; simp -implicitDefEqProofs [*]) <;> exact rfl))
        | ((with_reducible apply Wo_gsF); (exact rfl); ((conv => lhs; simp -implicitDefEqProofs [*]) <;> exact rfl))
        | ((with_reducible apply ex2); (conv => lhs; simp -implicitDefEqProofs [*]) <;> exact rfl)
        | (with_reducible apply W_ss) | (with_reducible apply W_srl) | (with_reducible apply W_rl)
        | ((with_reducible apply W_sc); (conv => lhs; simp -implicitDefEqProofs [*]) <;> exact rfl)
        | ((with_reducible apply W_c); (conv => lhs; simp -implicitDefEqProofs [*]) <;> exact rfl)
        | ((with_reducible apply W_srdl); kernel_rfl) | ((with_reducible apply W_rdl); kernel_rfl)
        | ((with_reducible apply Wd_u); (conv => lhs; simp -implicitDefEqProofs [*]) <;> exact rfl)
        | ((with_reducible apply Wd_n); (conv => lhs; simp -implicitDefEqProofs [*]) <;> exact rfl)
        | ((with_reducible apply Wd_nil); exact rfl)
        | ((with_reducible apply Wd_gsT); (exact rfl); ((conv => lhs; simp -implicitDefEqProofs [*]) <;> exact rfl))
        | ((with_reducible apply Wd_gsF); (exact rfl); ((conv => lhs; simp -implicitDefEqProofs [*]) <;> exact rfl))
        | ((with_reducible apply ex4); (conv => lhs; simp -implicitDefEqProofs [*]) <;> exact rfl)
        | (with_reducible apply W_sblock) | (with_reducible apply W_block) | (with_reducible apply W_sskip) | (with_reducible apply W_skip) | (with_reducible apply W_sret) | (with_reducible apply W_ret) | (with_reducible apply W_sexit) | (with_reducible apply W_exit)
        | (with_reducible apply thenW_n) | (with_reducible apply thenW_r) | (with_reducible apply thenW_e) | (with_reducible apply inB_n) | (with_reducible apply inB_r) | (with_reducible apply inB_e) | ((with_reducible apply inB_o); rotate_left; exact rfl)
        | ((with_reducible apply EndQ_ret); (conv => lhs; simp -implicitDefEqProofs [*]) <;> exact rfl) | ((with_reducible apply EndQ_normal); (conv => lhs; simp -implicitDefEqProofs [*]) <;> exact rfl)
        | (intro h h'; try simp [*, -h] at h'))
      all_goals exact ⟨_, by omega, k + 1, rfl, hlt, htk1.out, by simp [*], by simp [*], by simp [*], by simp [*], by simp [*]⟩
    · have hne : decide (a = b) = false := by
        rw [decide_eq_false_iff_not]
        rintro rfl
        rw [ha] at hb
        exact hxy (Option.some.inj hb)
      rw [hne]
      clear htk hne
      repeat' (first
        | ((with_reducible apply Wo_u); (conv => lhs; simp -implicitDefEqProofs [*]) <;> exact rfl)
        | ((with_reducible apply Wo_n); (conv => lhs; simp -implicitDefEqProofs [*]) <;> exact rfl)
        | (with_reducible apply Wo_nil)
        | ((with_reducible apply Wo_gt); (exact rfl); ((conv => lhs; simp -implicitDefEqProofs [*]) <;> exact rfl); (conv => lhs; simp -implicitDefEqProofs [*]) <;> exact rfl)
        | ((with_reducible apply Wo_gf); (exact rfl); ((conv => lhs; simp -implicitDefEqProofs [*]) <;> exact rfl); (exact rfl))
        | ((with_reducible apply Wo_gx); (exact rfl); ((conv => lhs; simp -implicitDefEqProofs [*]) <;> exact rfl))
        | ((with_reducible apply Wo_gsT); (exact rfl); ((conv => lhs; simp -implicitDefEqProofs [*]) <;> exact rfl))
        | ((with_reducible apply Wo_gsF); (exact rfl); ((conv => lhs; simp -implicitDefEqProofs [*]) <;> exact rfl))
        | ((with_reducible apply ex2); (conv => lhs; simp -implicitDefEqProofs [*]) <;> exact rfl)
        | (with_reducible apply W_ss) | (with_reducible apply W_srl) | (with_reducible apply W_rl)
        | ((with_reducible apply W_sc); (conv => lhs; simp -implicitDefEqProofs [*]) <;> exact rfl)
        | ((with_reducible apply W_c); (conv => lhs; simp -implicitDefEqProofs [*]) <;> exact rfl)
        | ((with_reducible apply W_srdl); kernel_rfl) | ((with_reducible apply W_rdl); kernel_rfl)
        | ((with_reducible apply Wd_u); (conv => lhs; simp -implicitDefEqProofs [*]) <;> exact rfl)
        | ((with_reducible apply Wd_n); (conv => lhs; simp -implicitDefEqProofs [*]) <;> exact rfl)
        | ((with_reducible apply Wd_nil); exact rfl)
        | ((with_reducible apply Wd_gsT); (exact rfl); ((conv => lhs; simp -implicitDefEqProofs [*]) <;> exact rfl))
        | ((with_reducible apply Wd_gsF); (exact rfl); ((conv => lhs; simp -implicitDefEqProofs [*]) <;> exact rfl))
        | ((with_reducible apply ex4); (conv => lhs; simp -implicitDefEqProofs [*]) <;> exact rfl)
        | (with_reducible apply W_sblock) | (with_reducible apply W_block) | (with_reducible apply W_sskip) | (with_reducible apply W_skip) | (with_reducible apply W_sret) | (with_reducible apply W_ret) | (with_reducible apply W_sexit) | (with_reducible apply W_exit)
        | (with_reducible apply thenW_n) | (with_reducible apply thenW_r) | (with_reducible apply thenW_e) | (with_reducible apply inB_n) | (with_reducible apply inB_r) | (with_reducible apply inB_e) | ((with_reducible apply inB_o); rotate_left; exact rfl)
        | ((with_reducible apply EndQ_ret); (conv => lhs; simp -implicitDefEqProofs [*]) <;> exact rfl) | ((with_reducible apply EndQ_normal); (conv => lhs; simp -implicitDefEqProofs [*]) <;> exact rfl)
        | (intro h h'; try simp [*, -h] at h'))
      all_goals rfl
  · obtain rfl : k = n := by omega
    have he : a = b := by rwa [List.take_of_length_le (by omega), List.take_of_length_le (by omega)] at htk
    rw [decide_eq_true he]
    clear htk he
    repeat' (first
      | ((with_reducible apply Wo_u); (conv => lhs; simp -implicitDefEqProofs [*]) <;> exact rfl)
      | ((with_reducible apply Wo_n); (conv => lhs; simp -implicitDefEqProofs [*]) <;> exact rfl)
      | (with_reducible apply Wo_nil)
      | ((with_reducible apply Wo_gt); (exact rfl); ((conv => lhs; simp -implicitDefEqProofs [*]) <;> exact rfl); (conv => lhs; simp -implicitDefEqProofs [*]) <;> exact rfl)
      | ((with_reducible apply Wo_gf); (exact rfl); ((conv => lhs; simp -implicitDefEqProofs [*]) <;> exact rfl); (exact rfl))
      | ((with_reducible apply Wo_gx); (exact rfl); ((conv => lhs; simp -implicitDefEqProofs [*]) <;> exact rfl))
      | ((with_reducible apply Wo_gsT); (exact rfl); ((conv => lhs; simp -implicitDefEqProofs [*]) <;> exact rfl))
      | ((with_reducible apply Wo_gsF); (exact rfl); ((conv => lhs; simp -implicitDefEqProofs [*]) <;> exact rfl))
      | ((with_reducible apply ex2); (conv => lhs; simp -implicitDefEqProofs [*]) <;> exact rfl)
      | (with_reducible apply W_ss) | (with_reducible apply W_srl) | (with_reducible apply W_rl)
      | ((with_reducible apply W_sc); (conv => lhs; simp -implicitDefEqProofs [*]) <;> exact rfl)
      | ((with_reducible apply W_c); (conv => lhs; simp -implicitDefEqProofs [*]) <;> exact rfl)
      | ((with_reducible apply W_srdl); kernel_rfl) | ((with_reducible apply W_rdl); kernel_rfl)
      | ((with_reducible apply Wd_u); (conv => lhs; simp -implicitDefEqProofs [*]) <;> exact rfl)
      | ((with_reducible apply Wd_n); (conv => lhs; simp -implicitDefEqProofs [*]) <;> exact rfl)
      | ((with_reducible apply Wd_nil); exact rfl)
      | ((with_reducible apply Wd_gsT); (exact rfl); ((conv => lhs; simp -implicitDefEqProofs [*]) <;> exact rfl))
      | ((with_reducible apply Wd_gsF); (exact rfl); ((conv => lhs; simp -implicitDefEqProofs [*]) <;> exact rfl))
      | ((with_reducible apply ex4); (conv => lhs; simp -implicitDefEqProofs [*]) <;> exact rfl)
      | (with_reducible apply W_sblock) | (with_reducible apply W_block) | (with_reducible apply W_sskip) | (with_reducible apply W_skip) | (with_reducible apply W_sret) | (with_reducible apply W_ret) | (with_reducible apply W_sexit) | (with_reducible apply W_exit)
      | (with_reducible apply thenW_n) | (with_reducible apply thenW_r) | (with_reducible apply thenW_e) | (with_reducible apply inB_n) | (with_reducible apply inB_r) | (with_reducible apply inB_e) | ((with_reducible apply inB_o); rotate_left; exact rfl)
      | ((with_reducible apply EndQ_ret); (conv => lhs; simp -implicitDefEqProofs [*]) <;> exact rfl) | ((with_reducible apply EndQ_normal); (conv => lhs; simp -implicitDefEqProofs [*]) <;> exact rfl)
      | (intro h h'; try simp [*, -h] at h'))
    all_goals rfl
end Go.Proofs.Ytdokejnokhicbaa

namespace Go.Proofs.Ytdokejnokhicbaa
open Go Go.Ab
set_option linter.unusedSimpArgs false
set_option linter.unusedVariables false
attribute [-simp] Prog.bind getCs putCs
attribute [local simp ↓] run_bind
attribute [local simp ↓] runF_bind
attribute [local simp] run_getCsN runF_getCsN facetsC putCs_one run_putCsN runF_putCsN facetsW facetsH
theorem a13_1 : (lim Try.prog E47 X47).dat 13 [.sc (.string ⟨#[83, 69, 69, 68, 1, 0, 0, 0, 2, 0, 0, 0, 5, 0, 0, 0]⟩), iv 0, uv 9] = some [.sc (.string ⟨#[83, 69, 69, 68, 1, 0, 0, 0, 2, 0, 0, 0, 9, 0, 0, 0]⟩), iv 0] := by
  rw [d13 _ _ _ (by decide) (by unfold U; omega)]
  have : imgB ⟨#[83, 69, 69, 68, 1, 0, 0, 0, 2, 0, 0, 0, 5, 0, 0, 0]⟩ = true := by decide +kernel
  have h2 : (codeOf ⟨#[83, 69, 69, 68, 1, 0, 0, 0, 2, 0, 0, 0, 5, 0, 0, 0]⟩) = [5] := by decide +kernel
  have h3 : wordAt ⟨#[83, 69, 69, 68, 1, 0, 0, 0, 2, 0, 0, 0, 5, 0, 0, 0]⟩ 8 = 2 := by decide +kernel
  unfold plantR
  rw [if_pos this, h2, h3, if_pos (by simp)]
  have h4 : txtI [9] 2 = ⟨#[83, 69, 69, 68, 1, 0, 0, 0, 2, 0, 0, 0, 9, 0, 0, 0]⟩ := by decide +kernel
  simp [h4]
theorem a13_2 : (lim Try.prog E47 X47).dat 13 [.sc (.string ⟨#[83, 69, 69, 68]⟩), iv 0, uv 9] = some [.sc (.string ⟨#[]⟩), iv 7] := by
  rw [d13 _ _ _ (by decide) (by unfold U; omega)]
  have : imgB ⟨#[83, 69, 69, 68]⟩ = false := by decide +kernel
  unfold plantR
  rw [if_neg (by rw [this]; simp)]
set_option maxHeartbeats 4000000 in
theorem d7 : (lim Try.prog E47 X47).dat 7 [] = some [bv true] := by
  refine fnW Try.func7 rfl rfl bodyOk_7 rfl rtys_7 rfl ?_
  have u1 : ∀ x ∈ ([1, 2, 3] : List Int), U x := by simp [U]
  have h1 := d8 [1, 2, 3] (by simp) u1
  have h2 := d11 [1, 2, 3] (by simp) u1 ⟨#[97, 98]⟩
  have h3 := d8_long (List.replicate 1001 0) (by rw [List.length_replicate]; omega)
  have h4 := a13_1
  have h5 := a13_2
  have h6 := d15 [⟨#[97]⟩, ⟨#[98]⟩] 1 (by simp)
  have h7 := d15 [⟨#[97]⟩] 2 (by simp)
  unfold cutR15 at h6 h7
  rw [if_pos (by simp)] at h6
  rw [if_neg (by simp)] at h7
  simp at h1 h6 h7
  have e3 : rowW (List.replicate 1001 0) = List.replicate 1001 [uv 0] := List.map_replicate
  rw [e3] at h3
  clear e3 u1
  have rp3 : ∀ x : List AV, List.replicate 3 x = [x, x, x] := fun _ => rfl
  have rp2 : ∀ x : List AV, List.replicate 2 x = [x, x] := fun _ => rfl
  generalize txtI (mirC [1, 2, 3]) 0 = T at h1 h2
  repeat' (first
    | ((with_reducible apply Wo_u); (conv => lhs; simp -implicitDefEqProofs [*, -List.reduceReplicate]) <;> exact rfl)
    | ((with_reducible apply Wo_n); (conv => lhs; simp -implicitDefEqProofs [*, -List.reduceReplicate]) <;> exact rfl)
    | (with_reducible apply Wo_nil)
    | ((with_reducible apply Wo_gt); (exact rfl); ((conv => lhs; simp -implicitDefEqProofs [*, -List.reduceReplicate]) <;> exact rfl); (conv => lhs; simp -implicitDefEqProofs [*, -List.reduceReplicate]) <;> exact rfl)
    | ((with_reducible apply Wo_gf); (exact rfl); ((conv => lhs; simp -implicitDefEqProofs [*, -List.reduceReplicate]) <;> exact rfl); (exact rfl))
    | ((with_reducible apply Wo_gx); (exact rfl); ((conv => lhs; simp -implicitDefEqProofs [*, -List.reduceReplicate]) <;> exact rfl))
    | ((with_reducible apply Wo_gsT); (exact rfl); ((conv => lhs; simp -implicitDefEqProofs [*, -List.reduceReplicate]) <;> exact rfl))
    | ((with_reducible apply Wo_gsF); (exact rfl); ((conv => lhs; simp -implicitDefEqProofs [*, -List.reduceReplicate]) <;> exact rfl))
    | ((with_reducible apply ex2); (conv => lhs; simp -implicitDefEqProofs [*, -List.reduceReplicate]) <;> exact rfl)
    | (with_reducible apply W_ss) | (with_reducible apply W_srl) | (with_reducible apply W_rl)
    | ((with_reducible apply W_sc); (conv => lhs; simp -implicitDefEqProofs [*, -List.reduceReplicate]) <;> exact rfl)
    | ((with_reducible apply W_c); (conv => lhs; simp -implicitDefEqProofs [*, -List.reduceReplicate]) <;> exact rfl)
    | ((with_reducible apply W_srdl); kernel_rfl) | ((with_reducible apply W_rdl); kernel_rfl)
    | ((with_reducible apply Wd_u); (conv => lhs; simp -implicitDefEqProofs [*, -List.reduceReplicate]) <;> exact rfl)
    | ((with_reducible apply Wd_n); (conv => lhs; simp -implicitDefEqProofs [*, -List.reduceReplicate]) <;> exact rfl)
    | ((with_reducible apply Wd_nil); exact rfl)
    | ((with_reducible apply Wd_gsT); (exact rfl); ((conv => lhs; simp -implicitDefEqProofs [*, -List.reduceReplicate]) <;> exact rfl))
    | ((with_reducible apply Wd_gsF); (exact rfl); ((conv => lhs; simp -implicitDefEqProofs [*, -List.reduceReplicate]) <;> exact rfl))
    | ((with_reducible apply ex4); (conv => lhs; simp -implicitDefEqProofs [*, -List.reduceReplicate]) <;> exact rfl)
    | (with_reducible apply W_sblock) | (with_reducible apply W_block) | (with_reducible apply W_sskip) | (with_reducible apply W_skip) | (with_reducible apply W_sret) | (with_reducible apply W_ret) | (with_reducible apply W_sexit) | (with_reducible apply W_exit)
    | (with_reducible apply thenW_n) | (with_reducible apply thenW_r) | (with_reducible apply thenW_e) | (with_reducible apply inB_n) | (with_reducible apply inB_r) | (with_reducible apply inB_e) | ((with_reducible apply inB_o); rotate_left; exact rfl)
    | ((with_reducible apply EndQ_ret); (conv => lhs; simp -implicitDefEqProofs [*, -List.reduceReplicate]) <;> exact rfl) | ((with_reducible apply EndQ_normal); (conv => lhs; simp -implicitDefEqProofs [*, -List.reduceReplicate]) <;> exact rfl)
    | (intro h h'; try simp [*, -h] at h'))
  all_goals rfl
end Go.Proofs.Ytdokejnokhicbaa
