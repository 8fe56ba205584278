/- Instructions taken apart and applied, walked. -/
import Derived.Test.YtaeeffddinppeaaGreatDoorQ3
set_option linter.unusedSimpArgs false
set_option linter.unusedVariables false
namespace Go.Proofs.YtaeeffddinppeaaGreatDoor
open Go Go.Ab Go.Ma
set_option maxHeartbeats 4000000 in
theorem m362 (w : Int) (hU : Ma.U w)  : (lim Tryz.prog E00 X00).dat 362 [uv w] = some [.agg (decP w), iv (if rightI (insW w) then 0 else 7)] := by
  refine fnW Tryz.func362 rfl rfl bodyOk_362 rfl rtys_362 rfl ?_
  obtain ⟨n, hn⟩ : ∃ n : Nat, w / 16777216 = n ∧ n < 256 := ⟨(w / 16777216).toNat, by unfold Ma.U at hU; omega, by unfold Ma.U at hU; omega⟩
  obtain ⟨a, ha⟩ : ∃ a : Nat, w / 1048576 % 16 = a := ⟨(w / 1048576 % 16).toNat, by omega⟩
  obtain ⟨b, hb⟩ : ∃ b : Nat, w / 65536 % 16 = b := ⟨(w / 65536 % 16).toNat, by omega⟩
  obtain ⟨c, hc⟩ : ∃ c : Nat, w % 65536 = c := ⟨(w % 65536).toNat, by omega⟩
  have hins : insW w = ⟨n, a, b, c⟩ := by unfold insW; rw [hn.1, ha, hb, hc]
  have h132 := m132 n a b c hn.2
  have d1 : w.fdiv (2 ^ min 24 IntKind.u32.bits) = n := by rw [show (2 : Int) ^ min 24 IntKind.u32.bits = 16777216 from rfl, Int.fdiv_eq_ediv_of_nonneg _ (by decide)]; exact hn.1
  have d2 : w.fdiv (2 ^ min 20 IntKind.u32.bits) = w / 1048576 := by rw [show (2 : Int) ^ min 20 IntKind.u32.bits = 1048576 from rfl]; exact Int.fdiv_eq_ediv_of_nonneg _ (by decide)
  have d3 : w.fdiv (2 ^ min 16 IntKind.u32.bits) = w / 65536 := by rw [show (2 : Int) ^ min 16 IntKind.u32.bits = 65536 from rfl]; exact Int.fdiv_eq_ediv_of_nonneg _ (by decide)
  have u2 : Ma.U (w / 1048576) := by unfold Ma.U at *; omega
  have u3 : Ma.U (w / 65536) := by unfold Ma.U at *; omega
  have w2 : IntKind.u32.wrap (((w / 1048576 % 2 ^ IntKind.u32.bits).toNat &&& 15 % 2 ^ IntKind.u32.bits : Nat) : Int) = a := by have h := (U_and u2).1; rw [and_form, ha] at h; exact h
  have w3 : IntKind.u32.wrap (((w / 65536 % 2 ^ IntKind.u32.bits).toNat &&& 15 % 2 ^ IntKind.u32.bits : Nat) : Int) = b := by have h := (U_and u3).1; rw [and_form, hb] at h; exact h
  have w4 : IntKind.u32.wrap (((w % 2 ^ IntKind.u32.bits).toNat &&& 65535 % 2 ^ IntKind.u32.bits : Nat) : Int) = c := by have h := (U_and hU).2; rw [and_form, hc] at h; exact h
  have i1 : IntKind.i64.wrap (n : Int) = n := wrap64 (by omega) (by omega)
  have i2 : IntKind.i64.wrap (a : Int) = a := wrap64 (by omega) (by omega)
  have i3 : IntKind.i64.wrap (b : Int) = b := wrap64 (by omega) (by omega)
  have i4 : IntKind.i64.wrap (c : Int) = c := wrap64 (by omega) (by omega)
  unfold decP
  rw [hins]
  simp only
  clear hins hU
  generalize rightI ⟨n, a, b, c⟩ = r at *
  cases r
  all_goals
    repeat' (first
      | ((with_reducible first | apply Wo_u | apply Wo_n | apply ex2 | apply W_sc | apply W_c | apply Wd_u | apply Wd_n | apply ex4 | apply EndQ_ret | apply EndQ_normal); (conv => lhs; simp -implicitDefEqProofs [*]) <;> exact rfl)
      | (with_reducible first | apply Wo_nil | apply W_ss | apply W_srl | apply W_rl | apply W_sblock | apply W_block | apply W_sskip | apply W_skip | apply W_sret | apply W_ret | apply W_sexit | apply W_exit | apply thenW_n | apply thenW_r | apply thenW_e | apply inB_n | apply inB_r | apply inB_e)
      | ((with_reducible apply Wo_gt); (exact rfl); ((conv => lhs; simp -implicitDefEqProofs [*]) <;> exact rfl); (conv => lhs; simp -implicitDefEqProofs [*]) <;> exact rfl)
      | ((with_reducible apply Wo_gf); (exact rfl); ((conv => lhs; simp -implicitDefEqProofs [*]) <;> exact rfl); (exact rfl))
      | ((with_reducible apply Wo_gx); (exact rfl); ((conv => lhs; simp -implicitDefEqProofs [*]) <;> exact rfl))
      | ((with_reducible apply Wo_gsT); (exact rfl); ((conv => lhs; simp -implicitDefEqProofs [*]) <;> exact rfl))
      | ((with_reducible apply Wo_gsF); (exact rfl); ((conv => lhs; simp -implicitDefEqProofs [*]) <;> exact rfl))
      | ((with_reducible apply Wd_gsT); (exact rfl); ((conv => lhs; simp -implicitDefEqProofs [*]) <;> exact rfl))
      | ((with_reducible apply Wd_gsF); (exact rfl); ((conv => lhs; simp -implicitDefEqProofs [*]) <;> exact rfl))
      | ((with_reducible first | apply W_srdl | apply W_rdl); kernel_rfl)
      | ((with_reducible apply Wd_nil); kernel_rfl)
      | ((with_reducible apply inB_o); rotate_left; exact rfl)
      | (intro h h'; try simp [*, -h] at h')
      | ((with_reducible apply Wd_gx); (exact rfl); ((conv => lhs; simp -implicitDefEqProofs [*]) <;> exact rfl)))
  all_goals rfl
theorem m402_4 (x y : Int) : (lim Tryz.prog E00 X00).dat 402 [iv 4, uv x, uv y] = some [uv (IntKind.u32.wrap (x + y)), iv 0] := lim_dat.2 ⟨100, by kernel_rfl⟩
theorem m402_5 (x y : Int) : (lim Tryz.prog E00 X00).dat 402 [iv 5, uv x, uv y] = some [uv (IntKind.u32.wrap (x - y)), iv 0] := lim_dat.2 ⟨100, by kernel_rfl⟩
theorem m402_6 (x y : Int) : (lim Tryz.prog E00 X00).dat 402 [iv 6, uv x, uv y] = some [uv (IntKind.u32.wrap (x * y)), iv 0] := lim_dat.2 ⟨100, by kernel_rfl⟩
theorem m402_9 (x y : Int) : (lim Tryz.prog E00 X00).dat 402 [iv 9, uv x, uv y] = some [uv (IntKind.u32.wrap (andW x y)), iv 0] := lim_dat.2 ⟨100, by kernel_rfl⟩
theorem m402_10 (x y : Int) : (lim Tryz.prog E00 X00).dat 402 [iv 10, uv x, uv y] = some [uv (IntKind.u32.wrap (orW x y)), iv 0] := lim_dat.2 ⟨100, by kernel_rfl⟩
theorem m402_11 (x y : Int) : (lim Tryz.prog E00 X00).dat 402 [iv 11, uv x, uv y] = some [uv (IntKind.u32.wrap (xorW x y)), iv 0] := lim_dat.2 ⟨100, by kernel_rfl⟩
set_option maxHeartbeats 1000000 in
set_option maxHeartbeats 1000000 in
theorem m414_7 (x y : Int)  : (lim Tryz.prog E00 X00).dat 414 [iv 7, uv x, uv y] = some [uv (if y = 0 then 0 else IntKind.u32.wrap (x.tdiv y)), iv (if y = 0 then 14 else 0)] := by
  refine fnW Tryz.func414 rfl rfl bodyOk_414 rfl rtys_414 rfl ?_
  by_cases h : y = 0
  all_goals have hb := beq_dec y 0
  all_goals simp only [h, if_true, if_false, decide_true, decide_false] at hb ⊢
  all_goals
    repeat' (first
      | ((with_reducible first | apply Wo_u | apply Wo_n | apply ex2 | apply W_sc | apply W_c | apply Wd_u | apply Wd_n | apply ex4 | apply EndQ_ret | apply EndQ_normal); (conv => lhs; simp -implicitDefEqProofs [*]) <;> exact rfl)
      | (with_reducible first | apply Wo_nil | apply W_ss | apply W_srl | apply W_rl | apply W_sblock | apply W_block | apply W_sskip | apply W_skip | apply W_sret | apply W_ret | apply W_sexit | apply W_exit | apply thenW_n | apply thenW_r | apply thenW_e | apply inB_n | apply inB_r | apply inB_e)
      | ((with_reducible apply Wo_gt); (exact rfl); ((conv => lhs; simp -implicitDefEqProofs [*]) <;> exact rfl); (conv => lhs; simp -implicitDefEqProofs [*]) <;> exact rfl)
      | ((with_reducible apply Wo_gf); (exact rfl); ((conv => lhs; simp -implicitDefEqProofs [*]) <;> exact rfl); (exact rfl))
      | ((with_reducible apply Wo_gx); (exact rfl); ((conv => lhs; simp -implicitDefEqProofs [*]) <;> exact rfl))
      | ((with_reducible apply Wo_gsT); (exact rfl); ((conv => lhs; simp -implicitDefEqProofs [*]) <;> exact rfl))
      | ((with_reducible apply Wo_gsF); (exact rfl); ((conv => lhs; simp -implicitDefEqProofs [*]) <;> exact rfl))
      | ((with_reducible apply Wd_gsT); (exact rfl); ((conv => lhs; simp -implicitDefEqProofs [*]) <;> exact rfl))
      | ((with_reducible apply Wd_gsF); (exact rfl); ((conv => lhs; simp -implicitDefEqProofs [*]) <;> exact rfl))
      | ((with_reducible first | apply W_srdl | apply W_rdl); kernel_rfl)
      | ((with_reducible apply Wd_nil); kernel_rfl)
      | ((with_reducible apply inB_o); rotate_left; exact rfl)
      | (intro h h'; try simp [*, -h] at h')
      | ((with_reducible apply Wd_gx); (exact rfl); ((conv => lhs; simp -implicitDefEqProofs [*]) <;> exact rfl)))
  all_goals simp [*]
set_option maxHeartbeats 1000000 in
set_option maxHeartbeats 1000000 in
theorem m414_8 (x y : Int)  : (lim Tryz.prog E00 X00).dat 414 [iv 8, uv x, uv y] = some [uv (if y = 0 then 0 else x.tmod y), iv (if y = 0 then 14 else 0)] := by
  refine fnW Tryz.func414 rfl rfl bodyOk_414 rfl rtys_414 rfl ?_
  by_cases h : y = 0
  all_goals have hb := beq_dec y 0
  all_goals simp only [h, if_true, if_false, decide_true, decide_false] at hb ⊢
  all_goals
    repeat' (first
      | ((with_reducible first | apply Wo_u | apply Wo_n | apply ex2 | apply W_sc | apply W_c | apply Wd_u | apply Wd_n | apply ex4 | apply EndQ_ret | apply EndQ_normal); (conv => lhs; simp -implicitDefEqProofs [*]) <;> exact rfl)
      | (with_reducible first | apply Wo_nil | apply W_ss | apply W_srl | apply W_rl | apply W_sblock | apply W_block | apply W_sskip | apply W_skip | apply W_sret | apply W_ret | apply W_sexit | apply W_exit | apply thenW_n | apply thenW_r | apply thenW_e | apply inB_n | apply inB_r | apply inB_e)
      | ((with_reducible apply Wo_gt); (exact rfl); ((conv => lhs; simp -implicitDefEqProofs [*]) <;> exact rfl); (conv => lhs; simp -implicitDefEqProofs [*]) <;> exact rfl)
      | ((with_reducible apply Wo_gf); (exact rfl); ((conv => lhs; simp -implicitDefEqProofs [*]) <;> exact rfl); (exact rfl))
      | ((with_reducible apply Wo_gx); (exact rfl); ((conv => lhs; simp -implicitDefEqProofs [*]) <;> exact rfl))
      | ((with_reducible apply Wo_gsT); (exact rfl); ((conv => lhs; simp -implicitDefEqProofs [*]) <;> exact rfl))
      | ((with_reducible apply Wo_gsF); (exact rfl); ((conv => lhs; simp -implicitDefEqProofs [*]) <;> exact rfl))
      | ((with_reducible apply Wd_gsT); (exact rfl); ((conv => lhs; simp -implicitDefEqProofs [*]) <;> exact rfl))
      | ((with_reducible apply Wd_gsF); (exact rfl); ((conv => lhs; simp -implicitDefEqProofs [*]) <;> exact rfl))
      | ((with_reducible first | apply W_srdl | apply W_rdl); kernel_rfl)
      | ((with_reducible apply Wd_nil); kernel_rfl)
      | ((with_reducible apply inB_o); rotate_left; exact rfl)
      | (intro h h'; try simp [*, -h] at h')
      | ((with_reducible apply Wd_gx); (exact rfl); ((conv => lhs; simp -implicitDefEqProofs [*]) <;> exact rfl)))
  all_goals simp [*]
set_option maxHeartbeats 1000000 in
theorem m415_12 (x y : Int) (hy : Ma.U y)  : (lim Tryz.prog E00 X00).dat 415 [iv 12, uv x, uv y] = some [uv (if 31 < y then 0 else IntKind.u32.wrap (x * 2 ^ (min y.toNat 32)))] := by
  refine fnW Tryz.func415 rfl rfl bodyOk_415 rfl rtys_415 rfl ?_
  have hn : ¬ y < 0 := by have := hy.1; omega
  by_cases h : 31 < y
  all_goals simp only [h, if_true, if_false]
  all_goals
    repeat' (first
      | ((with_reducible first | apply Wo_u | apply Wo_n | apply ex2 | apply W_sc | apply W_c | apply Wd_u | apply Wd_n | apply ex4 | apply EndQ_ret | apply EndQ_normal); (conv => lhs; simp -implicitDefEqProofs [*]) <;> exact rfl)
      | (with_reducible first | apply Wo_nil | apply W_ss | apply W_srl | apply W_rl | apply W_sblock | apply W_block | apply W_sskip | apply W_skip | apply W_sret | apply W_ret | apply W_sexit | apply W_exit | apply thenW_n | apply thenW_r | apply thenW_e | apply inB_n | apply inB_r | apply inB_e)
      | ((with_reducible apply Wo_gt); (exact rfl); ((conv => lhs; simp -implicitDefEqProofs [*]) <;> exact rfl); (conv => lhs; simp -implicitDefEqProofs [*]) <;> exact rfl)
      | ((with_reducible apply Wo_gf); (exact rfl); ((conv => lhs; simp -implicitDefEqProofs [*]) <;> exact rfl); (exact rfl))
      | ((with_reducible apply Wo_gx); (exact rfl); ((conv => lhs; simp -implicitDefEqProofs [*]) <;> exact rfl))
      | ((with_reducible apply Wo_gsT); (exact rfl); ((conv => lhs; simp -implicitDefEqProofs [*]) <;> exact rfl))
      | ((with_reducible apply Wo_gsF); (exact rfl); ((conv => lhs; simp -implicitDefEqProofs [*]) <;> exact rfl))
      | ((with_reducible apply Wd_gsT); (exact rfl); ((conv => lhs; simp -implicitDefEqProofs [*]) <;> exact rfl))
      | ((with_reducible apply Wd_gsF); (exact rfl); ((conv => lhs; simp -implicitDefEqProofs [*]) <;> exact rfl))
      | ((with_reducible first | apply W_srdl | apply W_rdl); kernel_rfl)
      | ((with_reducible apply Wd_nil); kernel_rfl)
      | ((with_reducible apply inB_o); rotate_left; exact rfl)
      | (intro h h'; try simp [*, -h] at h')
      | ((with_reducible apply Wd_gx); (exact rfl); ((conv => lhs; simp -implicitDefEqProofs [*]) <;> exact rfl)))
  all_goals rfl
set_option maxHeartbeats 1000000 in
theorem m415_13 (x y : Int) (hy : Ma.U y)  : (lim Tryz.prog E00 X00).dat 415 [iv 13, uv x, uv y] = some [uv (if 31 < y then 0 else x.fdiv (2 ^ (min y.toNat 32)))] := by
  refine fnW Tryz.func415 rfl rfl bodyOk_415 rfl rtys_415 rfl ?_
  have hn : ¬ y < 0 := by have := hy.1; omega
  by_cases h : 31 < y
  all_goals simp only [h, if_true, if_false]
  all_goals
    repeat' (first
      | ((with_reducible first | apply Wo_u | apply Wo_n | apply ex2 | apply W_sc | apply W_c | apply Wd_u | apply Wd_n | apply ex4 | apply EndQ_ret | apply EndQ_normal); (conv => lhs; simp -implicitDefEqProofs [*]) <;> exact rfl)
      | (with_reducible first | apply Wo_nil | apply W_ss | apply W_srl | apply W_rl | apply W_sblock | apply W_block | apply W_sskip | apply W_skip | apply W_sret | apply W_ret | apply W_sexit | apply W_exit | apply thenW_n | apply thenW_r | apply thenW_e | apply inB_n | apply inB_r | apply inB_e)
      | ((with_reducible apply Wo_gt); (exact rfl); ((conv => lhs; simp -implicitDefEqProofs [*]) <;> exact rfl); (conv => lhs; simp -implicitDefEqProofs [*]) <;> exact rfl)
      | ((with_reducible apply Wo_gf); (exact rfl); ((conv => lhs; simp -implicitDefEqProofs [*]) <;> exact rfl); (exact rfl))
      | ((with_reducible apply Wo_gx); (exact rfl); ((conv => lhs; simp -implicitDefEqProofs [*]) <;> exact rfl))
      | ((with_reducible apply Wo_gsT); (exact rfl); ((conv => lhs; simp -implicitDefEqProofs [*]) <;> exact rfl))
      | ((with_reducible apply Wo_gsF); (exact rfl); ((conv => lhs; simp -implicitDefEqProofs [*]) <;> exact rfl))
      | ((with_reducible apply Wd_gsT); (exact rfl); ((conv => lhs; simp -implicitDefEqProofs [*]) <;> exact rfl))
      | ((with_reducible apply Wd_gsF); (exact rfl); ((conv => lhs; simp -implicitDefEqProofs [*]) <;> exact rfl))
      | ((with_reducible first | apply W_srdl | apply W_rdl); kernel_rfl)
      | ((with_reducible apply Wd_nil); kernel_rfl)
      | ((with_reducible apply inB_o); rotate_left; exact rfl)
      | (intro h h'; try simp [*, -h] at h')
      | ((with_reducible apply Wd_gx); (exact rfl); ((conv => lhs; simp -implicitDefEqProofs [*]) <;> exact rfl)))
  all_goals rfl
set_option maxHeartbeats 1000000 in
theorem m416_14 (x y : Int)  : (lim Tryz.prog E00 X00).dat 416 [iv 14, uv x, uv y] = some [uv (if x < y then 1 else 0)] := by
  refine fnW Tryz.func416 rfl rfl bodyOk_416 rfl rtys_416 rfl ?_
  have hb := beq_dec x y
  by_cases h : x < y
  all_goals simp only [h, if_true, if_false, decide_true, decide_false] at hb ⊢
  all_goals
    repeat' (first
      | ((with_reducible first | apply Wo_u | apply Wo_n | apply ex2 | apply W_sc | apply W_c | apply Wd_u | apply Wd_n | apply ex4 | apply EndQ_ret | apply EndQ_normal); (conv => lhs; simp -implicitDefEqProofs [*]) <;> exact rfl)
      | (with_reducible first | apply Wo_nil | apply W_ss | apply W_srl | apply W_rl | apply W_sblock | apply W_block | apply W_sskip | apply W_skip | apply W_sret | apply W_ret | apply W_sexit | apply W_exit | apply thenW_n | apply thenW_r | apply thenW_e | apply inB_n | apply inB_r | apply inB_e)
      | ((with_reducible apply Wo_gt); (exact rfl); ((conv => lhs; simp -implicitDefEqProofs [*]) <;> exact rfl); (conv => lhs; simp -implicitDefEqProofs [*]) <;> exact rfl)
      | ((with_reducible apply Wo_gf); (exact rfl); ((conv => lhs; simp -implicitDefEqProofs [*]) <;> exact rfl); (exact rfl))
      | ((with_reducible apply Wo_gx); (exact rfl); ((conv => lhs; simp -implicitDefEqProofs [*]) <;> exact rfl))
      | ((with_reducible apply Wo_gsT); (exact rfl); ((conv => lhs; simp -implicitDefEqProofs [*]) <;> exact rfl))
      | ((with_reducible apply Wo_gsF); (exact rfl); ((conv => lhs; simp -implicitDefEqProofs [*]) <;> exact rfl))
      | ((with_reducible apply Wd_gsT); (exact rfl); ((conv => lhs; simp -implicitDefEqProofs [*]) <;> exact rfl))
      | ((with_reducible apply Wd_gsF); (exact rfl); ((conv => lhs; simp -implicitDefEqProofs [*]) <;> exact rfl))
      | ((with_reducible first | apply W_srdl | apply W_rdl); kernel_rfl)
      | ((with_reducible apply Wd_nil); kernel_rfl)
      | ((with_reducible apply inB_o); rotate_left; exact rfl)
      | (intro h h'; try simp [*, -h] at h')
      | ((with_reducible apply Wd_gx); (exact rfl); ((conv => lhs; simp -implicitDefEqProofs [*]) <;> exact rfl)))
  all_goals rfl
set_option maxHeartbeats 1000000 in
theorem m416_15 (x y : Int)  : (lim Tryz.prog E00 X00).dat 416 [iv 15, uv x, uv y] = some [uv (if x = y then 1 else 0)] := by
  refine fnW Tryz.func416 rfl rfl bodyOk_416 rfl rtys_416 rfl ?_
  have hb := beq_dec x y
  by_cases h : x = y
  all_goals simp only [h, if_true, if_false, decide_true, decide_false] at hb ⊢
  all_goals
    repeat' (first
      | ((with_reducible first | apply Wo_u | apply Wo_n | apply ex2 | apply W_sc | apply W_c | apply Wd_u | apply Wd_n | apply ex4 | apply EndQ_ret | apply EndQ_normal); (conv => lhs; simp -implicitDefEqProofs [*]) <;> exact rfl)
      | (with_reducible first | apply Wo_nil | apply W_ss | apply W_srl | apply W_rl | apply W_sblock | apply W_block | apply W_sskip | apply W_skip | apply W_sret | apply W_ret | apply W_sexit | apply W_exit | apply thenW_n | apply thenW_r | apply thenW_e | apply inB_n | apply inB_r | apply inB_e)
      | ((with_reducible apply Wo_gt); (exact rfl); ((conv => lhs; simp -implicitDefEqProofs [*]) <;> exact rfl); (conv => lhs; simp -implicitDefEqProofs [*]) <;> exact rfl)
      | ((with_reducible apply Wo_gf); (exact rfl); ((conv => lhs; simp -implicitDefEqProofs [*]) <;> exact rfl); (exact rfl))
      | ((with_reducible apply Wo_gx); (exact rfl); ((conv => lhs; simp -implicitDefEqProofs [*]) <;> exact rfl))
      | ((with_reducible apply Wo_gsT); (exact rfl); ((conv => lhs; simp -implicitDefEqProofs [*]) <;> exact rfl))
      | ((with_reducible apply Wo_gsF); (exact rfl); ((conv => lhs; simp -implicitDefEqProofs [*]) <;> exact rfl))
      | ((with_reducible apply Wd_gsT); (exact rfl); ((conv => lhs; simp -implicitDefEqProofs [*]) <;> exact rfl))
      | ((with_reducible apply Wd_gsF); (exact rfl); ((conv => lhs; simp -implicitDefEqProofs [*]) <;> exact rfl))
      | ((with_reducible first | apply W_srdl | apply W_rdl); kernel_rfl)
      | ((with_reducible apply Wd_nil); kernel_rfl)
      | ((with_reducible apply inB_o); rotate_left; exact rfl)
      | (intro h h'; try simp [*, -h] at h')
      | ((with_reducible apply Wd_gx); (exact rfl); ((conv => lhs; simp -implicitDefEqProofs [*]) <;> exact rfl)))
  all_goals rfl
set_option maxHeartbeats 1000000 in
theorem m402_7 (x y : Int)  : (lim Tryz.prog E00 X00).dat 402 [iv 7, uv x, uv y] = some [uv (if y = 0 then 0 else IntKind.u32.wrap (x.tdiv y)), iv (if y = 0 then 14 else 0)] := by
  refine fnW Tryz.func402 rfl rfl bodyOk_402 rfl rtys_402 rfl ?_
  have h414 := m414_7 x y
  generalize (if y = 0 then 0 else IntKind.u32.wrap (x.tdiv y)) = v1 at *
  generalize (if y = 0 then (14 : Int) else 0) = v2 at *
  repeat' (first
    | ((with_reducible first | apply Wo_u | apply Wo_n | apply ex2 | apply W_sc | apply W_c | apply Wd_u | apply Wd_n | apply ex4 | apply EndQ_ret | apply EndQ_normal); (conv => lhs; simp -implicitDefEqProofs [*]) <;> exact rfl)
    | (with_reducible first | apply Wo_nil | apply W_ss | apply W_srl | apply W_rl | apply W_sblock | apply W_block | apply W_sskip | apply W_skip | apply W_sret | apply W_ret | apply W_sexit | apply W_exit | apply thenW_n | apply thenW_r | apply thenW_e | apply inB_n | apply inB_r | apply inB_e)
    | ((with_reducible apply Wo_gt); (exact rfl); ((conv => lhs; simp -implicitDefEqProofs [*]) <;> exact rfl); (conv => lhs; simp -implicitDefEqProofs [*]) <;> exact rfl)
    | ((with_reducible apply Wo_gf); (exact rfl); ((conv => lhs; simp -implicitDefEqProofs [*]) <;> exact rfl); (exact rfl))
    | ((with_reducible apply Wo_gx); (exact rfl); ((conv => lhs; simp -implicitDefEqProofs [*]) <;> exact rfl))
    | ((with_reducible apply Wo_gsT); (exact rfl); ((conv => lhs; simp -implicitDefEqProofs [*]) <;> exact rfl))
    | ((with_reducible apply Wo_gsF); (exact rfl); ((conv => lhs; simp -implicitDefEqProofs [*]) <;> exact rfl))
    | ((with_reducible apply Wd_gsT); (exact rfl); ((conv => lhs; simp -implicitDefEqProofs [*]) <;> exact rfl))
    | ((with_reducible apply Wd_gsF); (exact rfl); ((conv => lhs; simp -implicitDefEqProofs [*]) <;> exact rfl))
    | ((with_reducible first | apply W_srdl | apply W_rdl); kernel_rfl)
    | ((with_reducible apply Wd_nil); kernel_rfl)
    | ((with_reducible apply inB_o); rotate_left; exact rfl)
    | (intro h h'; try simp [*, -h] at h')
    | ((with_reducible apply Wd_gx); (exact rfl); ((conv => lhs; simp -implicitDefEqProofs [*]) <;> exact rfl)))
  all_goals rfl
set_option maxHeartbeats 1000000 in
theorem m402_8 (x y : Int)  : (lim Tryz.prog E00 X00).dat 402 [iv 8, uv x, uv y] = some [uv (if y = 0 then 0 else x.tmod y), iv (if y = 0 then 14 else 0)] := by
  refine fnW Tryz.func402 rfl rfl bodyOk_402 rfl rtys_402 rfl ?_
  have h414 := m414_8 x y
  generalize (if y = 0 then 0 else x.tmod y) = v1 at *
  generalize (if y = 0 then (14 : Int) else 0) = v2 at *
  repeat' (first
    | ((with_reducible first | apply Wo_u | apply Wo_n | apply ex2 | apply W_sc | apply W_c | apply Wd_u | apply Wd_n | apply ex4 | apply EndQ_ret | apply EndQ_normal); (conv => lhs; simp -implicitDefEqProofs [*]) <;> exact rfl)
    | (with_reducible first | apply Wo_nil | apply W_ss | apply W_srl | apply W_rl | apply W_sblock | apply W_block | apply W_sskip | apply W_skip | apply W_sret | apply W_ret | apply W_sexit | apply W_exit | apply thenW_n | apply thenW_r | apply thenW_e | apply inB_n | apply inB_r | apply inB_e)
    | ((with_reducible apply Wo_gt); (exact rfl); ((conv => lhs; simp -implicitDefEqProofs [*]) <;> exact rfl); (conv => lhs; simp -implicitDefEqProofs [*]) <;> exact rfl)
    | ((with_reducible apply Wo_gf); (exact rfl); ((conv => lhs; simp -implicitDefEqProofs [*]) <;> exact rfl); (exact rfl))
    | ((with_reducible apply Wo_gx); (exact rfl); ((conv => lhs; simp -implicitDefEqProofs [*]) <;> exact rfl))
    | ((with_reducible apply Wo_gsT); (exact rfl); ((conv => lhs; simp -implicitDefEqProofs [*]) <;> exact rfl))
    | ((with_reducible apply Wo_gsF); (exact rfl); ((conv => lhs; simp -implicitDefEqProofs [*]) <;> exact rfl))
    | ((with_reducible apply Wd_gsT); (exact rfl); ((conv => lhs; simp -implicitDefEqProofs [*]) <;> exact rfl))
    | ((with_reducible apply Wd_gsF); (exact rfl); ((conv => lhs; simp -implicitDefEqProofs [*]) <;> exact rfl))
    | ((with_reducible first | apply W_srdl | apply W_rdl); kernel_rfl)
    | ((with_reducible apply Wd_nil); kernel_rfl)
    | ((with_reducible apply inB_o); rotate_left; exact rfl)
    | (intro h h'; try simp [*, -h] at h')
    | ((with_reducible apply Wd_gx); (exact rfl); ((conv => lhs; simp -implicitDefEqProofs [*]) <;> exact rfl)))
  all_goals rfl
set_option maxHeartbeats 1000000 in
theorem m402_12 (x y : Int) (hy : Ma.U y)  : (lim Tryz.prog E00 X00).dat 402 [iv 12, uv x, uv y] = some [uv (if 31 < y then 0 else IntKind.u32.wrap (x * 2 ^ (min y.toNat 32))), iv 0] := by
  refine fnW Tryz.func402 rfl rfl bodyOk_402 rfl rtys_402 rfl ?_
  have h41 := m415_12 x y hy
  generalize (if 31 < y then 0 else IntKind.u32.wrap (x * 2 ^ (min y.toNat 32))) = v1 at *
  repeat' (first
    | ((with_reducible first | apply Wo_u | apply Wo_n | apply ex2 | apply W_sc | apply W_c | apply Wd_u | apply Wd_n | apply ex4 | apply EndQ_ret | apply EndQ_normal); (conv => lhs; simp -implicitDefEqProofs [*]) <;> exact rfl)
    | (with_reducible first | apply Wo_nil | apply W_ss | apply W_srl | apply W_rl | apply W_sblock | apply W_block | apply W_sskip | apply W_skip | apply W_sret | apply W_ret | apply W_sexit | apply W_exit | apply thenW_n | apply thenW_r | apply thenW_e | apply inB_n | apply inB_r | apply inB_e)
    | ((with_reducible apply Wo_gt); (exact rfl); ((conv => lhs; simp -implicitDefEqProofs [*]) <;> exact rfl); (conv => lhs; simp -implicitDefEqProofs [*]) <;> exact rfl)
    | ((with_reducible apply Wo_gf); (exact rfl); ((conv => lhs; simp -implicitDefEqProofs [*]) <;> exact rfl); (exact rfl))
    | ((with_reducible apply Wo_gx); (exact rfl); ((conv => lhs; simp -implicitDefEqProofs [*]) <;> exact rfl))
    | ((with_reducible apply Wo_gsT); (exact rfl); ((conv => lhs; simp -implicitDefEqProofs [*]) <;> exact rfl))
    | ((with_reducible apply Wo_gsF); (exact rfl); ((conv => lhs; simp -implicitDefEqProofs [*]) <;> exact rfl))
    | ((with_reducible apply Wd_gsT); (exact rfl); ((conv => lhs; simp -implicitDefEqProofs [*]) <;> exact rfl))
    | ((with_reducible apply Wd_gsF); (exact rfl); ((conv => lhs; simp -implicitDefEqProofs [*]) <;> exact rfl))
    | ((with_reducible first | apply W_srdl | apply W_rdl); kernel_rfl)
    | ((with_reducible apply Wd_nil); kernel_rfl)
    | ((with_reducible apply inB_o); rotate_left; exact rfl)
    | (intro h h'; try simp [*, -h] at h')
    | ((with_reducible apply Wd_gx); (exact rfl); ((conv => lhs; simp -implicitDefEqProofs [*]) <;> exact rfl)))
  all_goals rfl
set_option maxHeartbeats 1000000 in
theorem m402_13 (x y : Int) (hy : Ma.U y)  : (lim Tryz.prog E00 X00).dat 402 [iv 13, uv x, uv y] = some [uv (if 31 < y then 0 else x.fdiv (2 ^ (min y.toNat 32))), iv 0] := by
  refine fnW Tryz.func402 rfl rfl bodyOk_402 rfl rtys_402 rfl ?_
  have h41 := m415_13 x y hy
  generalize (if 31 < y then 0 else x.fdiv (2 ^ (min y.toNat 32))) = v1 at *
  repeat' (first
    | ((with_reducible first | apply Wo_u | apply Wo_n | apply ex2 | apply W_sc | apply W_c | apply Wd_u | apply Wd_n | apply ex4 | apply EndQ_ret | apply EndQ_normal); (conv => lhs; simp -implicitDefEqProofs [*]) <;> exact rfl)
    | (with_reducible first | apply Wo_nil | apply W_ss | apply W_srl | apply W_rl | apply W_sblock | apply W_block | apply W_sskip | apply W_skip | apply W_sret | apply W_ret | apply W_sexit | apply W_exit | apply thenW_n | apply thenW_r | apply thenW_e | apply inB_n | apply inB_r | apply inB_e)
    | ((with_reducible apply Wo_gt); (exact rfl); ((conv => lhs; simp -implicitDefEqProofs [*]) <;> exact rfl); (conv => lhs; simp -implicitDefEqProofs [*]) <;> exact rfl)
    | ((with_reducible apply Wo_gf); (exact rfl); ((conv => lhs; simp -implicitDefEqProofs [*]) <;> exact rfl); (exact rfl))
    | ((with_reducible apply Wo_gx); (exact rfl); ((conv => lhs; simp -implicitDefEqProofs [*]) <;> exact rfl))
    | ((with_reducible apply Wo_gsT); (exact rfl); ((conv => lhs; simp -implicitDefEqProofs [*]) <;> exact rfl))
    | ((with_reducible apply Wo_gsF); (exact rfl); ((conv => lhs; simp -implicitDefEqProofs [*]) <;> exact rfl))
    | ((with_reducible apply Wd_gsT); (exact rfl); ((conv => lhs; simp -implicitDefEqProofs [*]) <;> exact rfl))
    | ((with_reducible apply Wd_gsF); (exact rfl); ((conv => lhs; simp -implicitDefEqProofs [*]) <;> exact rfl))
    | ((with_reducible first | apply W_srdl | apply W_rdl); kernel_rfl)
    | ((with_reducible apply Wd_nil); kernel_rfl)
    | ((with_reducible apply inB_o); rotate_left; exact rfl)
    | (intro h h'; try simp [*, -h] at h')
    | ((with_reducible apply Wd_gx); (exact rfl); ((conv => lhs; simp -implicitDefEqProofs [*]) <;> exact rfl)))
  all_goals rfl
set_option maxHeartbeats 1000000 in
theorem m402_14 (x y : Int)  : (lim Tryz.prog E00 X00).dat 402 [iv 14, uv x, uv y] = some [uv (if x < y then 1 else 0), iv 0] := by
  refine fnW Tryz.func402 rfl rfl bodyOk_402 rfl rtys_402 rfl ?_
  have h41 := m416_14 x y
  generalize (if x < y then 1 else 0) = v1 at *
  repeat' (first
    | ((with_reducible first | apply Wo_u | apply Wo_n | apply ex2 | apply W_sc | apply W_c | apply Wd_u | apply Wd_n | apply ex4 | apply EndQ_ret | apply EndQ_normal); (conv => lhs; simp -implicitDefEqProofs [*]) <;> exact rfl)
    | (with_reducible first | apply Wo_nil | apply W_ss | apply W_srl | apply W_rl | apply W_sblock | apply W_block | apply W_sskip | apply W_skip | apply W_sret | apply W_ret | apply W_sexit | apply W_exit | apply thenW_n | apply thenW_r | apply thenW_e | apply inB_n | apply inB_r | apply inB_e)
    | ((with_reducible apply Wo_gt); (exact rfl); ((conv => lhs; simp -implicitDefEqProofs [*]) <;> exact rfl); (conv => lhs; simp -implicitDefEqProofs [*]) <;> exact rfl)
    | ((with_reducible apply Wo_gf); (exact rfl); ((conv => lhs; simp -implicitDefEqProofs [*]) <;> exact rfl); (exact rfl))
    | ((with_reducible apply Wo_gx); (exact rfl); ((conv => lhs; simp -implicitDefEqProofs [*]) <;> exact rfl))
    | ((with_reducible apply Wo_gsT); (exact rfl); ((conv => lhs; simp -implicitDefEqProofs [*]) <;> exact rfl))
    | ((with_reducible apply Wo_gsF); (exact rfl); ((conv => lhs; simp -implicitDefEqProofs [*]) <;> exact rfl))
    | ((with_reducible apply Wd_gsT); (exact rfl); ((conv => lhs; simp -implicitDefEqProofs [*]) <;> exact rfl))
    | ((with_reducible apply Wd_gsF); (exact rfl); ((conv => lhs; simp -implicitDefEqProofs [*]) <;> exact rfl))
    | ((with_reducible first | apply W_srdl | apply W_rdl); kernel_rfl)
    | ((with_reducible apply Wd_nil); kernel_rfl)
    | ((with_reducible apply inB_o); rotate_left; exact rfl)
    | (intro h h'; try simp [*, -h] at h')
    | ((with_reducible apply Wd_gx); (exact rfl); ((conv => lhs; simp -implicitDefEqProofs [*]) <;> exact rfl)))
  all_goals rfl
set_option maxHeartbeats 1000000 in
theorem m402_15 (x y : Int)  : (lim Tryz.prog E00 X00).dat 402 [iv 15, uv x, uv y] = some [uv (if x = y then 1 else 0), iv 0] := by
  refine fnW Tryz.func402 rfl rfl bodyOk_402 rfl rtys_402 rfl ?_
  have h41 := m416_15 x y
  generalize (if x = y then 1 else 0) = v1 at *
  repeat' (first
    | ((with_reducible first | apply Wo_u | apply Wo_n | apply ex2 | apply W_sc | apply W_c | apply Wd_u | apply Wd_n | apply ex4 | apply EndQ_ret | apply EndQ_normal); (conv => lhs; simp -implicitDefEqProofs [*]) <;> exact rfl)
    | (with_reducible first | apply Wo_nil | apply W_ss | apply W_srl | apply W_rl | apply W_sblock | apply W_block | apply W_sskip | apply W_skip | apply W_sret | apply W_ret | apply W_sexit | apply W_exit | apply thenW_n | apply thenW_r | apply thenW_e | apply inB_n | apply inB_r | apply inB_e)
    | ((with_reducible apply Wo_gt); (exact rfl); ((conv => lhs; simp -implicitDefEqProofs [*]) <;> exact rfl); (conv => lhs; simp -implicitDefEqProofs [*]) <;> exact rfl)
    | ((with_reducible apply Wo_gf); (exact rfl); ((conv => lhs; simp -implicitDefEqProofs [*]) <;> exact rfl); (exact rfl))
    | ((with_reducible apply Wo_gx); (exact rfl); ((conv => lhs; simp -implicitDefEqProofs [*]) <;> exact rfl))
    | ((with_reducible apply Wo_gsT); (exact rfl); ((conv => lhs; simp -implicitDefEqProofs [*]) <;> exact rfl))
    | ((with_reducible apply Wo_gsF); (exact rfl); ((conv => lhs; simp -implicitDefEqProofs [*]) <;> exact rfl))
    | ((with_reducible apply Wd_gsT); (exact rfl); ((conv => lhs; simp -implicitDefEqProofs [*]) <;> exact rfl))
    | ((with_reducible apply Wd_gsF); (exact rfl); ((conv => lhs; simp -implicitDefEqProofs [*]) <;> exact rfl))
    | ((with_reducible first | apply W_srdl | apply W_rdl); kernel_rfl)
    | ((with_reducible apply Wd_nil); kernel_rfl)
    | ((with_reducible apply inB_o); rotate_left; exact rfl)
    | (intro h h'; try simp [*, -h] at h')
    | ((with_reducible apply Wd_gx); (exact rfl); ((conv => lhs; simp -implicitDefEqProofs [*]) <;> exact rfl)))
  all_goals rfl
theorem m402 (op : Nat) (x y : Int) (h4 : 4 ≤ op) (h15 : op ≤ 15) (hx : Ma.U x) (hy : Ma.U y) : (lim Tryz.prog E00 X00).dat 402 [iv op, uv x, uv y] = some [uv ((apP op x y).getD 0), iv (if (apP op x y).isSome then 0 else 14)] := by
  have x0 := hx.1
  have y0 := hy.1
  have ub : ∀ b : BitVec 32, IntKind.u32.wrap (b.toNat : Int) = b.toNat := fun b => wrap_U (U_bits b)
  obtain rfl | rfl | rfl | rfl | rfl | rfl | rfl | rfl | rfl | rfl | rfl | rfl : op = 4 ∨ op = 5 ∨ op = 6 ∨ op = 7 ∨ op = 8 ∨ op = 9 ∨ op = 10 ∨ op = 11 ∨ op = 12 ∨ op = 13 ∨ op = 14 ∨ op = 15 := by omega
  · refine (m402_4 x y).trans ?_; rw [IntKind.wrap_u32]; simp [apP]
  · refine (m402_5 x y).trans ?_; rw [IntKind.wrap_u32]; simp [apP]
  · refine (m402_6 x y).trans ?_; rw [IntKind.wrap_u32]; simp [apP]
  · refine (m402_7 x y).trans ?_
    by_cases h : y = 0
    · simp [apP, h]
    · have h1 := apP_U (op := 7) hx hy (x := x / y) (by simp [apP, h])
      rw [Int.tdiv_eq_ediv_of_nonneg x0, wrap_U h1]
      simp [apP, h]
  · refine (m402_8 x y).trans ?_
    by_cases h : y = 0
    · simp [apP, h]
    · rw [Int.tmod_eq_emod_of_nonneg x0]
      simp [apP, h]
  · refine (m402_9 x y).trans ?_; unfold andW; rw [ub]; simp [apP, andW]
  · refine (m402_10 x y).trans ?_; unfold orW; rw [ub]; simp [apP, orW]
  · refine (m402_11 x y).trans ?_; unfold xorW; rw [ub]; simp [apP, xorW]
  · refine (m402_12 x y hy).trans ?_
    by_cases h : 31 < y
    · simp [apP, h]
    · rw [Nat.min_eq_left (by omega), IntKind.wrap_u32]; simp [apP, h]
  · refine (m402_13 x y hy).trans ?_
    by_cases h : 31 < y
    · simp [apP, h]
    · rw [Nat.min_eq_left (by omega), Int.fdiv_eq_ediv_of_nonneg _ (Int.le_of_lt (Int.pow_pos (by decide)))]; simp [apP, h]
  · refine (m402_14 x y).trans ?_; simp [apP]
  · refine (m402_15 x y).trans ?_; simp [apP]
end Go.Proofs.YtaeeffddinppeaaGreatDoor
