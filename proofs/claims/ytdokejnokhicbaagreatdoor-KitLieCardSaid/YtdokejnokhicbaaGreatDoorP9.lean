/- Law 47: the law of lies. -/
import Derived.Test.YtdokejnokhicbaaGreatDoorP8
namespace Go.Proofs.YtdokejnokhicbaaGreatDoor
open Go Go.Ab
set_option linter.unusedSimpArgs false
set_option linter.unusedVariables false
attribute [-simp] Prog.bind getCs putCs
attribute [local simp ↓] run_bind
attribute [local simp ↓] runF_bind
attribute [local simp] run_getCsN runF_getCsN facetsC putCs_one run_putCsN runF_putCsN facetsW facetsH
attribute [local simp ↓] evInt_xor evInt_or evInt_and64
attribute [-simp] eqL
def zS : List AV := [uv 0, uv 0, uv 0, uv 0, iv 0, iv 0]
def zG : List AV := [iv 0, .vec 4 [], .vec 4 []]
set_option maxHeartbeats 4000000 in
theorem p13_range (s m : D4) (h n : Int) (hh : ¬ (0 ≤ h ∧ h ≤ 4)) : (lim Tryz.prog E47 X47).dat 13 [.agg (s.row ++ [iv h, iv n]), .agg m.row] = some [.agg zS, .agg zG, iv 2] := by
  refine fnW Tryz.func13 rfl rfl bodyOk_13 rfl rtys_13 rfl ?_
  have h26 : (lim Tryz.prog E47 X47).dat 26 [iv h] = some [bv false] := by
    have e : (decide (0 ≤ h) && decide (h ≤ 4)) = false := by
      by_cases h1 : 0 ≤ h
      · have h2 : ¬ h ≤ 4 := fun c => hh ⟨h1, c⟩
        simp [h2]
      · simp [h1]
    rw [e30, e]
  obtain ⟨s0, s1, s2, s3⟩ := s
  obtain ⟨m0, m1, m2, m3⟩ := m
  simp only [D4.row, List.cons_append, List.nil_append, zS, zG] at *
  clear hh
  repeat' (first
    | ((with_reducible first | apply Wo_u | apply Wo_n | apply ex2 | apply W_sc | apply W_c | apply Wd_u | apply Wd_n | apply ex4 | apply EndQ_ret | apply EndQ_normal); (conv => lhs; simp -implicitDefEqProofs [*]) <;> exact rfl)
    | (with_reducible first | apply Wo_nil | apply W_ss | apply W_srl | apply W_rl | apply W_sblock | apply W_block | apply W_sskip | apply W_skip | apply W_sret | apply W_ret | apply W_sexit | apply W_exit | apply thenW_n | apply thenW_r | apply thenW_e | apply inB_n | apply inB_r | apply inB_e)
    | ((with_reducible apply Wo_gt); (exact rfl); ((conv => lhs; simp -implicitDefEqProofs [*]) <;> exact rfl); (conv => lhs; simp -implicitDefEqProofs [*]) <;> exact rfl)
    | ((with_reducible apply Wo_gf); (exact rfl); ((conv => lhs; simp -implicitDefEqProofs [*]) <;> exact rfl); (exact rfl))
    | ((with_reducible apply Wo_gx); (exact rfl); ((conv => lhs; simp -implicitDefEqProofs [*]) <;> exact rfl))
    | ((with_reducible apply Wo_gsT); (exact rfl); ((conv => lhs; simp -implicitDefEqProofs [*]) <;> exact rfl))
    | ((with_reducible apply Wo_gsF); (exact rfl); ((conv => lhs; simp -implicitDefEqProofs [*]) <;> exact rfl))
    | ((with_reducible apply Wd_gsT); (exact rfl); ((conv => lhs; simp -implicitDefEqProofs [*]) <;> exact rfl))
    | ((with_reducible apply Wd_gsF); (exact rfl); ((conv => lhs; simp -implicitDefEqProofs [*]) <;> exact rfl))
    | ((with_reducible first | apply W_srdl | apply W_rdl); kernel_rfl)
    | ((with_reducible apply Wd_nil); exact rfl)
    | ((with_reducible apply inB_o); rotate_left; exact rfl)
    | (intro h h'; try simp [*, -h] at h'))
  all_goals rfl
set_option maxHeartbeats 4000000 in
theorem r16_range (s m : D4) (h n : Int) (hh : ¬ (0 ≤ h ∧ h ≤ 4)) : (lim Tryz.prog E47 X47).dat 16 [.agg (s.row ++ [iv h, iv n]), .agg m.row] = some [.agg zS, .agg zG, iv 2] := by
  refine fnW Tryz.func16 rfl rfl bodyOk_16 rfl rtys_16 rfl ?_
  obtain ⟨s0, s1, s2, s3⟩ := s
  obtain ⟨m0, m1, m2, m3⟩ := m
  simp only [D4.row, List.cons_append, List.nil_append, zS, zG] at *
  by_cases h1 : h < 0
  · clear hh
    repeat' (first
      | ((with_reducible first | apply Wo_u | apply Wo_n | apply ex2 | apply W_sc | apply W_c | apply Wd_u | apply Wd_n | apply ex4 | apply EndQ_ret | apply EndQ_normal); (conv => lhs; simp -implicitDefEqProofs [*]) <;> exact rfl)
      | (with_reducible first | apply Wo_nil | apply W_ss | apply W_srl | apply W_rl | apply W_sblock | apply W_block | apply W_sskip | apply W_skip | apply W_sret | apply W_ret | apply W_sexit | apply W_exit | apply thenW_n | apply thenW_r | apply thenW_e | apply inB_n | apply inB_r | apply inB_e)
      | ((with_reducible apply Wo_gt); (exact rfl); ((conv => lhs; simp -implicitDefEqProofs [*]) <;> exact rfl); (conv => lhs; simp -implicitDefEqProofs [*]) <;> exact rfl)
      | ((with_reducible apply Wo_gf); (exact rfl); ((conv => lhs; simp -implicitDefEqProofs [*]) <;> exact rfl); (exact rfl))
      | ((with_reducible apply Wo_gx); (exact rfl); ((conv => lhs; simp -implicitDefEqProofs [*]) <;> exact rfl))
      | ((with_reducible apply Wo_gsT); (exact rfl); ((conv => lhs; simp -implicitDefEqProofs [*]) <;> exact rfl))
      | ((with_reducible apply Wo_gsF); (exact rfl); ((conv => lhs; simp -implicitDefEqProofs [*]) <;> exact rfl))
      | ((with_reducible apply Wd_gsT); (exact rfl); ((conv => lhs; simp -implicitDefEqProofs [*]) <;> exact rfl))
      | ((with_reducible apply Wd_gsF); (exact rfl); ((conv => lhs; simp -implicitDefEqProofs [*]) <;> exact rfl))
      | ((with_reducible first | apply W_srdl | apply W_rdl); kernel_rfl)
      | ((with_reducible apply Wd_nil); exact rfl)
      | ((with_reducible apply inB_o); rotate_left; exact rfl)
      | (intro h h'; try simp [*, -h] at h'))
    all_goals rfl
  · have h2 : 4 < h := by omega
    clear hh
    repeat' (first
      | ((with_reducible first | apply Wo_u | apply Wo_n | apply ex2 | apply W_sc | apply W_c | apply Wd_u | apply Wd_n | apply ex4 | apply EndQ_ret | apply EndQ_normal); (conv => lhs; simp -implicitDefEqProofs [*]) <;> exact rfl)
      | (with_reducible first | apply Wo_nil | apply W_ss | apply W_srl | apply W_rl | apply W_sblock | apply W_block | apply W_sskip | apply W_skip | apply W_sret | apply W_ret | apply W_sexit | apply W_exit | apply thenW_n | apply thenW_r | apply thenW_e | apply inB_n | apply inB_r | apply inB_e)
      | ((with_reducible apply Wo_gt); (exact rfl); ((conv => lhs; simp -implicitDefEqProofs [*]) <;> exact rfl); (conv => lhs; simp -implicitDefEqProofs [*]) <;> exact rfl)
      | ((with_reducible apply Wo_gf); (exact rfl); ((conv => lhs; simp -implicitDefEqProofs [*]) <;> exact rfl); (exact rfl))
      | ((with_reducible apply Wo_gx); (exact rfl); ((conv => lhs; simp -implicitDefEqProofs [*]) <;> exact rfl))
      | ((with_reducible apply Wo_gsT); (exact rfl); ((conv => lhs; simp -implicitDefEqProofs [*]) <;> exact rfl))
      | ((with_reducible apply Wo_gsF); (exact rfl); ((conv => lhs; simp -implicitDefEqProofs [*]) <;> exact rfl))
      | ((with_reducible apply Wd_gsT); (exact rfl); ((conv => lhs; simp -implicitDefEqProofs [*]) <;> exact rfl))
      | ((with_reducible apply Wd_gsF); (exact rfl); ((conv => lhs; simp -implicitDefEqProofs [*]) <;> exact rfl))
      | ((with_reducible first | apply W_srdl | apply W_rdl); kernel_rfl)
      | ((with_reducible apply Wd_nil); exact rfl)
      | ((with_reducible apply inB_o); rotate_left; exact rfl)
      | (intro h h'; try simp [*, -h] at h'))
    all_goals rfl
set_option maxHeartbeats 4000000 in
theorem p13_used0 (s m : D4) (n : Int) (hn : n < 0 ∨ 1 ≤ n) : (lim Tryz.prog E47 X47).dat 13 [.agg (s.row ++ [iv 0, iv n]), .agg m.row] = some [.agg zS, .agg zG, iv 9] := by
  refine fnW Tryz.func13 rfl rfl bodyOk_13 rfl rtys_13 rfl ?_
  have h26 : (lim Tryz.prog E47 X47).dat 26 [iv 0] = some [bv true] := e30 0
  have b1 : IntKind.i64.wrap (2 ^ min 0 IntKind.i64.bits) = 1 := by decide +kernel
  have b2 : IntKind.i64.wrap 1 = 1 := by decide +kernel
  obtain ⟨s0, s1, s2, s3⟩ := s
  obtain ⟨m0, m1, m2, m3⟩ := m
  simp only [D4.row, List.cons_append, List.nil_append, zS, zG] at *
  by_cases h1 : n < 0
  · clear hn
    repeat' (first
      | ((with_reducible first | apply Wo_u | apply Wo_n | apply ex2 | apply W_sc | apply W_c | apply Wd_u | apply Wd_n | apply ex4 | apply EndQ_ret | apply EndQ_normal); (conv => lhs; simp -implicitDefEqProofs [*]) <;> exact rfl)
      | (with_reducible first | apply Wo_nil | apply W_ss | apply W_srl | apply W_rl | apply W_sblock | apply W_block | apply W_sskip | apply W_skip | apply W_sret | apply W_ret | apply W_sexit | apply W_exit | apply thenW_n | apply thenW_r | apply thenW_e | apply inB_n | apply inB_r | apply inB_e)
      | ((with_reducible apply Wo_gt); (exact rfl); ((conv => lhs; simp -implicitDefEqProofs [*]) <;> exact rfl); (conv => lhs; simp -implicitDefEqProofs [*]) <;> exact rfl)
      | ((with_reducible apply Wo_gf); (exact rfl); ((conv => lhs; simp -implicitDefEqProofs [*]) <;> exact rfl); (exact rfl))
      | ((with_reducible apply Wo_gx); (exact rfl); ((conv => lhs; simp -implicitDefEqProofs [*]) <;> exact rfl))
      | ((with_reducible apply Wo_gsT); (exact rfl); ((conv => lhs; simp -implicitDefEqProofs [*]) <;> exact rfl))
      | ((with_reducible apply Wo_gsF); (exact rfl); ((conv => lhs; simp -implicitDefEqProofs [*]) <;> exact rfl))
      | ((with_reducible apply Wd_gsT); (exact rfl); ((conv => lhs; simp -implicitDefEqProofs [*]) <;> exact rfl))
      | ((with_reducible apply Wd_gsF); (exact rfl); ((conv => lhs; simp -implicitDefEqProofs [*]) <;> exact rfl))
      | ((with_reducible first | apply W_srdl | apply W_rdl); kernel_rfl)
      | ((with_reducible apply Wd_nil); exact rfl)
      | ((with_reducible apply inB_o); rotate_left; exact rfl)
      | (intro h h'; try simp [*, -h] at h'))
    all_goals rfl
  · have h2 : 1 ≤ n := by omega
    clear hn
    repeat' (first
      | ((with_reducible first | apply Wo_u | apply Wo_n | apply ex2 | apply W_sc | apply W_c | apply Wd_u | apply Wd_n | apply ex4 | apply EndQ_ret | apply EndQ_normal); (conv => lhs; simp -implicitDefEqProofs [*]) <;> exact rfl)
      | (with_reducible first | apply Wo_nil | apply W_ss | apply W_srl | apply W_rl | apply W_sblock | apply W_block | apply W_sskip | apply W_skip | apply W_sret | apply W_ret | apply W_sexit | apply W_exit | apply thenW_n | apply thenW_r | apply thenW_e | apply inB_n | apply inB_r | apply inB_e)
      | ((with_reducible apply Wo_gt); (exact rfl); ((conv => lhs; simp -implicitDefEqProofs [*]) <;> exact rfl); (conv => lhs; simp -implicitDefEqProofs [*]) <;> exact rfl)
      | ((with_reducible apply Wo_gf); (exact rfl); ((conv => lhs; simp -implicitDefEqProofs [*]) <;> exact rfl); (exact rfl))
      | ((with_reducible apply Wo_gx); (exact rfl); ((conv => lhs; simp -implicitDefEqProofs [*]) <;> exact rfl))
      | ((with_reducible apply Wo_gsT); (exact rfl); ((conv => lhs; simp -implicitDefEqProofs [*]) <;> exact rfl))
      | ((with_reducible apply Wo_gsF); (exact rfl); ((conv => lhs; simp -implicitDefEqProofs [*]) <;> exact rfl))
      | ((with_reducible apply Wd_gsT); (exact rfl); ((conv => lhs; simp -implicitDefEqProofs [*]) <;> exact rfl))
      | ((with_reducible apply Wd_gsF); (exact rfl); ((conv => lhs; simp -implicitDefEqProofs [*]) <;> exact rfl))
      | ((with_reducible first | apply W_srdl | apply W_rdl); kernel_rfl)
      | ((with_reducible apply Wd_nil); exact rfl)
      | ((with_reducible apply inB_o); rotate_left; exact rfl)
      | (intro h h'; try simp [*, -h] at h'))
    all_goals rfl
set_option maxRecDepth 100000 in
set_option maxHeartbeats 4000000 in
theorem r38_0 (s : D4) : (lim Tryz.prog E47 X47).dat 38 [.agg s.row, iv 0] = some [.vec 4 (rowG [pubRt s 0])] := runXd (n := 200) (by kernel_rfl)
set_option maxHeartbeats 4000000 in
theorem r33_arg0 (s m : D4) (n : Int) (hn : n < 0 ∨ 1 ≤ n) : (lim Tryz.prog E47 X47).dat 33 [.agg s.row, iv 0, iv n, .agg m.row] = some [.agg zG, iv 1] := by
  refine fnW Tryz.func33 rfl rfl bodyOk_33 rfl rtys_33 rfl ?_
  have h38 := r38_0 s
  have hl : (rowG [pubRt s 0]).length = 1 := rfl
  generalize rowG [pubRt s 0] = RG at *
  obtain ⟨s0, s1, s2, s3⟩ := s
  obtain ⟨m0, m1, m2, m3⟩ := m
  simp only [D4.row, List.cons_append, List.nil_append, zS, zG] at *
  by_cases h1 : n < 0
  · clear hn
    repeat' (first
      | ((with_reducible first | apply Wo_u | apply Wo_n | apply ex2 | apply W_sc | apply W_c | apply Wd_u | apply Wd_n | apply ex4 | apply EndQ_ret | apply EndQ_normal); (conv => lhs; simp -implicitDefEqProofs [*]) <;> exact rfl)
      | (with_reducible first | apply Wo_nil | apply W_ss | apply W_srl | apply W_rl | apply W_sblock | apply W_block | apply W_sskip | apply W_skip | apply W_sret | apply W_ret | apply W_sexit | apply W_exit | apply thenW_n | apply thenW_r | apply thenW_e | apply inB_n | apply inB_r | apply inB_e)
      | ((with_reducible apply Wo_gt); (exact rfl); ((conv => lhs; simp -implicitDefEqProofs [*]) <;> exact rfl); (conv => lhs; simp -implicitDefEqProofs [*]) <;> exact rfl)
      | ((with_reducible apply Wo_gf); (exact rfl); ((conv => lhs; simp -implicitDefEqProofs [*]) <;> exact rfl); (exact rfl))
      | ((with_reducible apply Wo_gx); (exact rfl); ((conv => lhs; simp -implicitDefEqProofs [*]) <;> exact rfl))
      | ((with_reducible apply Wo_gsT); (exact rfl); ((conv => lhs; simp -implicitDefEqProofs [*]) <;> exact rfl))
      | ((with_reducible apply Wo_gsF); (exact rfl); ((conv => lhs; simp -implicitDefEqProofs [*]) <;> exact rfl))
      | ((with_reducible apply Wd_gsT); (exact rfl); ((conv => lhs; simp -implicitDefEqProofs [*]) <;> exact rfl))
      | ((with_reducible apply Wd_gsF); (exact rfl); ((conv => lhs; simp -implicitDefEqProofs [*]) <;> exact rfl))
      | ((with_reducible first | apply W_srdl | apply W_rdl); kernel_rfl)
      | ((with_reducible apply Wd_nil); exact rfl)
      | ((with_reducible apply inB_o); rotate_left; exact rfl)
      | (intro h h'; try simp [*, -h] at h'))
    all_goals rfl
  · have h2 : 1 ≤ n := by omega
    clear hn
    repeat' (first
      | ((with_reducible first | apply Wo_u | apply Wo_n | apply ex2 | apply W_sc | apply W_c | apply Wd_u | apply Wd_n | apply ex4 | apply EndQ_ret | apply EndQ_normal); (conv => lhs; simp -implicitDefEqProofs [*]) <;> exact rfl)
      | (with_reducible first | apply Wo_nil | apply W_ss | apply W_srl | apply W_rl | apply W_sblock | apply W_block | apply W_sskip | apply W_skip | apply W_sret | apply W_ret | apply W_sexit | apply W_exit | apply thenW_n | apply thenW_r | apply thenW_e | apply inB_n | apply inB_r | apply inB_e)
      | ((with_reducible apply Wo_gt); (exact rfl); ((conv => lhs; simp -implicitDefEqProofs [*]) <;> exact rfl); (conv => lhs; simp -implicitDefEqProofs [*]) <;> exact rfl)
      | ((with_reducible apply Wo_gf); (exact rfl); ((conv => lhs; simp -implicitDefEqProofs [*]) <;> exact rfl); (exact rfl))
      | ((with_reducible apply Wo_gx); (exact rfl); ((conv => lhs; simp -implicitDefEqProofs [*]) <;> exact rfl))
      | ((with_reducible apply Wo_gsT); (exact rfl); ((conv => lhs; simp -implicitDefEqProofs [*]) <;> exact rfl))
      | ((with_reducible apply Wo_gsF); (exact rfl); ((conv => lhs; simp -implicitDefEqProofs [*]) <;> exact rfl))
      | ((with_reducible apply Wd_gsT); (exact rfl); ((conv => lhs; simp -implicitDefEqProofs [*]) <;> exact rfl))
      | ((with_reducible apply Wd_gsF); (exact rfl); ((conv => lhs; simp -implicitDefEqProofs [*]) <;> exact rfl))
      | ((with_reducible first | apply W_srdl | apply W_rdl); kernel_rfl)
      | ((with_reducible apply Wd_nil); exact rfl)
      | ((with_reducible apply inB_o); rotate_left; exact rfl)
      | (intro h h'; try simp [*, -h] at h'))
    all_goals rfl
set_option maxHeartbeats 4000000 in
theorem r16_used0 (s m : D4) (n : Int) (hn : n < 0 ∨ 1 ≤ n) : (lim Tryz.prog E47 X47).dat 16 [.agg (s.row ++ [iv 0, iv n]), .agg m.row] = some [.agg zS, .agg zG, iv 9] := by
  refine fnW Tryz.func16 rfl rfl bodyOk_16 rfl rtys_16 rfl ?_
  have h33 := r33_arg0 s m n hn
  obtain ⟨s0, s1, s2, s3⟩ := s
  obtain ⟨m0, m1, m2, m3⟩ := m
  simp only [D4.row, List.cons_append, List.nil_append, zS, zG] at *
  clear hn
  repeat' (first
    | ((with_reducible first | apply Wo_u | apply Wo_n | apply ex2 | apply W_sc | apply W_c | apply Wd_u | apply Wd_n | apply ex4 | apply EndQ_ret | apply EndQ_normal); (conv => lhs; simp -implicitDefEqProofs [*]) <;> exact rfl)
    | (with_reducible first | apply Wo_nil | apply W_ss | apply W_srl | apply W_rl | apply W_sblock | apply W_block | apply W_sskip | apply W_skip | apply W_sret | apply W_ret | apply W_sexit | apply W_exit | apply thenW_n | apply thenW_r | apply thenW_e | apply inB_n | apply inB_r | apply inB_e)
    | ((with_reducible apply Wo_gt); (exact rfl); ((conv => lhs; simp -implicitDefEqProofs [*]) <;> exact rfl); (conv => lhs; simp -implicitDefEqProofs [*]) <;> exact rfl)
    | ((with_reducible apply Wo_gf); (exact rfl); ((conv => lhs; simp -implicitDefEqProofs [*]) <;> exact rfl); (exact rfl))
    | ((with_reducible apply Wo_gx); (exact rfl); ((conv => lhs; simp -implicitDefEqProofs [*]) <;> exact rfl))
    | ((with_reducible apply Wo_gsT); (exact rfl); ((conv => lhs; simp -implicitDefEqProofs [*]) <;> exact rfl))
    | ((with_reducible apply Wo_gsF); (exact rfl); ((conv => lhs; simp -implicitDefEqProofs [*]) <;> exact rfl))
    | ((with_reducible apply Wd_gsT); (exact rfl); ((conv => lhs; simp -implicitDefEqProofs [*]) <;> exact rfl))
    | ((with_reducible apply Wd_gsF); (exact rfl); ((conv => lhs; simp -implicitDefEqProofs [*]) <;> exact rfl))
    | ((with_reducible first | apply W_srdl | apply W_rdl); kernel_rfl)
    | ((with_reducible apply Wd_nil); exact rfl)
    | ((with_reducible apply inB_o); rotate_left; exact rfl)
    | (intro h h'; try simp [*, -h] at h'))
  all_goals rfl
set_option maxHeartbeats 4000000 in
theorem p13_used1 (s m : D4) (n : Int) (hn : n < 0 ∨ 2 ≤ n) : (lim Tryz.prog E47 X47).dat 13 [.agg (s.row ++ [iv 1, iv n]), .agg m.row] = some [.agg zS, .agg zG, iv 9] := by
  refine fnW Tryz.func13 rfl rfl bodyOk_13 rfl rtys_13 rfl ?_
  have h26 : (lim Tryz.prog E47 X47).dat 26 [iv 1] = some [bv true] := e30 1
  have b1 : IntKind.i64.wrap (2 ^ min 1 IntKind.i64.bits) = 2 := by decide +kernel
  have b2 : IntKind.i64.wrap 2 = 2 := by decide +kernel
  obtain ⟨s0, s1, s2, s3⟩ := s
  obtain ⟨m0, m1, m2, m3⟩ := m
  simp only [D4.row, List.cons_append, List.nil_append, zS, zG] at *
  by_cases h1 : n < 0
  · clear hn
    repeat' (first
      | ((with_reducible first | apply Wo_u | apply Wo_n | apply ex2 | apply W_sc | apply W_c | apply Wd_u | apply Wd_n | apply ex4 | apply EndQ_ret | apply EndQ_normal); (conv => lhs; simp -implicitDefEqProofs [*]) <;> exact rfl)
      | (with_reducible first | apply Wo_nil | apply W_ss | apply W_srl | apply W_rl | apply W_sblock | apply W_block | apply W_sskip | apply W_skip | apply W_sret | apply W_ret | apply W_sexit | apply W_exit | apply thenW_n | apply thenW_r | apply thenW_e | apply inB_n | apply inB_r | apply inB_e)
      | ((with_reducible apply Wo_gt); (exact rfl); ((conv => lhs; simp -implicitDefEqProofs [*]) <;> exact rfl); (conv => lhs; simp -implicitDefEqProofs [*]) <;> exact rfl)
      | ((with_reducible apply Wo_gf); (exact rfl); ((conv => lhs; simp -implicitDefEqProofs [*]) <;> exact rfl); (exact rfl))
      | ((with_reducible apply Wo_gx); (exact rfl); ((conv => lhs; simp -implicitDefEqProofs [*]) <;> exact rfl))
      | ((with_reducible apply Wo_gsT); (exact rfl); ((conv => lhs; simp -implicitDefEqProofs [*]) <;> exact rfl))
      | ((with_reducible apply Wo_gsF); (exact rfl); ((conv => lhs; simp -implicitDefEqProofs [*]) <;> exact rfl))
      | ((with_reducible apply Wd_gsT); (exact rfl); ((conv => lhs; simp -implicitDefEqProofs [*]) <;> exact rfl))
      | ((with_reducible apply Wd_gsF); (exact rfl); ((conv => lhs; simp -implicitDefEqProofs [*]) <;> exact rfl))
      | ((with_reducible first | apply W_srdl | apply W_rdl); kernel_rfl)
      | ((with_reducible apply Wd_nil); exact rfl)
      | ((with_reducible apply inB_o); rotate_left; exact rfl)
      | (intro h h'; try simp [*, -h] at h'))
    all_goals rfl
  · have h2 : 2 ≤ n := by omega
    clear hn
    repeat' (first
      | ((with_reducible first | apply Wo_u | apply Wo_n | apply ex2 | apply W_sc | apply W_c | apply Wd_u | apply Wd_n | apply ex4 | apply EndQ_ret | apply EndQ_normal); (conv => lhs; simp -implicitDefEqProofs [*]) <;> exact rfl)
      | (with_reducible first | apply Wo_nil | apply W_ss | apply W_srl | apply W_rl | apply W_sblock | apply W_block | apply W_sskip | apply W_skip | apply W_sret | apply W_ret | apply W_sexit | apply W_exit | apply thenW_n | apply thenW_r | apply thenW_e | apply inB_n | apply inB_r | apply inB_e)
      | ((with_reducible apply Wo_gt); (exact rfl); ((conv => lhs; simp -implicitDefEqProofs [*]) <;> exact rfl); (conv => lhs; simp -implicitDefEqProofs [*]) <;> exact rfl)
      | ((with_reducible apply Wo_gf); (exact rfl); ((conv => lhs; simp -implicitDefEqProofs [*]) <;> exact rfl); (exact rfl))
      | ((with_reducible apply Wo_gx); (exact rfl); ((conv => lhs; simp -implicitDefEqProofs [*]) <;> exact rfl))
      | ((with_reducible apply Wo_gsT); (exact rfl); ((conv => lhs; simp -implicitDefEqProofs [*]) <;> exact rfl))
      | ((with_reducible apply Wo_gsF); (exact rfl); ((conv => lhs; simp -implicitDefEqProofs [*]) <;> exact rfl))
      | ((with_reducible apply Wd_gsT); (exact rfl); ((conv => lhs; simp -implicitDefEqProofs [*]) <;> exact rfl))
      | ((with_reducible apply Wd_gsF); (exact rfl); ((conv => lhs; simp -implicitDefEqProofs [*]) <;> exact rfl))
      | ((with_reducible first | apply W_srdl | apply W_rdl); kernel_rfl)
      | ((with_reducible apply Wd_nil); exact rfl)
      | ((with_reducible apply inB_o); rotate_left; exact rfl)
      | (intro h h'; try simp [*, -h] at h'))
    all_goals rfl
set_option maxRecDepth 100000 in
set_option maxHeartbeats 4000000 in
theorem r38_1 (s : D4) : (lim Tryz.prog E47 X47).dat 38 [.agg s.row, iv 1] = some [.vec 4 (rowG [pubRt s 0, pubRt s 1])] := runXd (n := 200) (by kernel_rfl)
set_option maxHeartbeats 4000000 in
theorem r33_arg1 (s m : D4) (n : Int) (hn : n < 0 ∨ 2 ≤ n) : (lim Tryz.prog E47 X47).dat 33 [.agg s.row, iv 1, iv n, .agg m.row] = some [.agg zG, iv 1] := by
  refine fnW Tryz.func33 rfl rfl bodyOk_33 rfl rtys_33 rfl ?_
  have h38 := r38_1 s
  have hl : (rowG [pubRt s 0, pubRt s 1]).length = 2 := rfl
  generalize rowG [pubRt s 0, pubRt s 1] = RG at *
  obtain ⟨s0, s1, s2, s3⟩ := s
  obtain ⟨m0, m1, m2, m3⟩ := m
  simp only [D4.row, List.cons_append, List.nil_append, zS, zG] at *
  by_cases h1 : n < 0
  · clear hn
    repeat' (first
      | ((with_reducible first | apply Wo_u | apply Wo_n | apply ex2 | apply W_sc | apply W_c | apply Wd_u | apply Wd_n | apply ex4 | apply EndQ_ret | apply EndQ_normal); (conv => lhs; simp -implicitDefEqProofs [*]) <;> exact rfl)
      | (with_reducible first | apply Wo_nil | apply W_ss | apply W_srl | apply W_rl | apply W_sblock | apply W_block | apply W_sskip | apply W_skip | apply W_sret | apply W_ret | apply W_sexit | apply W_exit | apply thenW_n | apply thenW_r | apply thenW_e | apply inB_n | apply inB_r | apply inB_e)
      | ((with_reducible apply Wo_gt); (exact rfl); ((conv => lhs; simp -implicitDefEqProofs [*]) <;> exact rfl); (conv => lhs; simp -implicitDefEqProofs [*]) <;> exact rfl)
      | ((with_reducible apply Wo_gf); (exact rfl); ((conv => lhs; simp -implicitDefEqProofs [*]) <;> exact rfl); (exact rfl))
      | ((with_reducible apply Wo_gx); (exact rfl); ((conv => lhs; simp -implicitDefEqProofs [*]) <;> exact rfl))
      | ((with_reducible apply Wo_gsT); (exact rfl); ((conv => lhs; simp -implicitDefEqProofs [*]) <;> exact rfl))
      | ((with_reducible apply Wo_gsF); (exact rfl); ((conv => lhs; simp -implicitDefEqProofs [*]) <;> exact rfl))
      | ((with_reducible apply Wd_gsT); (exact rfl); ((conv => lhs; simp -implicitDefEqProofs [*]) <;> exact rfl))
      | ((with_reducible apply Wd_gsF); (exact rfl); ((conv => lhs; simp -implicitDefEqProofs [*]) <;> exact rfl))
      | ((with_reducible first | apply W_srdl | apply W_rdl); kernel_rfl)
      | ((with_reducible apply Wd_nil); exact rfl)
      | ((with_reducible apply inB_o); rotate_left; exact rfl)
      | (intro h h'; try simp [*, -h] at h'))
    all_goals rfl
  · have h2 : 2 ≤ n := by omega
    clear hn
    repeat' (first
      | ((with_reducible first | apply Wo_u | apply Wo_n | apply ex2 | apply W_sc | apply W_c | apply Wd_u | apply Wd_n | apply ex4 | apply EndQ_ret | apply EndQ_normal); (conv => lhs; simp -implicitDefEqProofs [*]) <;> exact rfl)
      | (with_reducible first | apply Wo_nil | apply W_ss | apply W_srl | apply W_rl | apply W_sblock | apply W_block | apply W_sskip | apply W_skip | apply W_sret | apply W_ret | apply W_sexit | apply W_exit | apply thenW_n | apply thenW_r | apply thenW_e | apply inB_n | apply inB_r | apply inB_e)
      | ((with_reducible apply Wo_gt); (exact rfl); ((conv => lhs; simp -implicitDefEqProofs [*]) <;> exact rfl); (conv => lhs; simp -implicitDefEqProofs [*]) <;> exact rfl)
      | ((with_reducible apply Wo_gf); (exact rfl); ((conv => lhs; simp -implicitDefEqProofs [*]) <;> exact rfl); (exact rfl))
      | ((with_reducible apply Wo_gx); (exact rfl); ((conv => lhs; simp -implicitDefEqProofs [*]) <;> exact rfl))
      | ((with_reducible apply Wo_gsT); (exact rfl); ((conv => lhs; simp -implicitDefEqProofs [*]) <;> exact rfl))
      | ((with_reducible apply Wo_gsF); (exact rfl); ((conv => lhs; simp -implicitDefEqProofs [*]) <;> exact rfl))
      | ((with_reducible apply Wd_gsT); (exact rfl); ((conv => lhs; simp -implicitDefEqProofs [*]) <;> exact rfl))
      | ((with_reducible apply Wd_gsF); (exact rfl); ((conv => lhs; simp -implicitDefEqProofs [*]) <;> exact rfl))
      | ((with_reducible first | apply W_srdl | apply W_rdl); kernel_rfl)
      | ((with_reducible apply Wd_nil); exact rfl)
      | ((with_reducible apply inB_o); rotate_left; exact rfl)
      | (intro h h'; try simp [*, -h] at h'))
    all_goals rfl
set_option maxHeartbeats 4000000 in
theorem r16_used1 (s m : D4) (n : Int) (hn : n < 0 ∨ 2 ≤ n) : (lim Tryz.prog E47 X47).dat 16 [.agg (s.row ++ [iv 1, iv n]), .agg m.row] = some [.agg zS, .agg zG, iv 9] := by
  refine fnW Tryz.func16 rfl rfl bodyOk_16 rfl rtys_16 rfl ?_
  have h33 := r33_arg1 s m n hn
  obtain ⟨s0, s1, s2, s3⟩ := s
  obtain ⟨m0, m1, m2, m3⟩ := m
  simp only [D4.row, List.cons_append, List.nil_append, zS, zG] at *
  clear hn
  repeat' (first
    | ((with_reducible first | apply Wo_u | apply Wo_n | apply ex2 | apply W_sc | apply W_c | apply Wd_u | apply Wd_n | apply ex4 | apply EndQ_ret | apply EndQ_normal); (conv => lhs; simp -implicitDefEqProofs [*]) <;> exact rfl)
    | (with_reducible first | apply Wo_nil | apply W_ss | apply W_srl | apply W_rl | apply W_sblock | apply W_block | apply W_sskip | apply W_skip | apply W_sret | apply W_ret | apply W_sexit | apply W_exit | apply thenW_n | apply thenW_r | apply thenW_e | apply inB_n | apply inB_r | apply inB_e)
    | ((with_reducible apply Wo_gt); (exact rfl); ((conv => lhs; simp -implicitDefEqProofs [*]) <;> exact rfl); (conv => lhs; simp -implicitDefEqProofs [*]) <;> exact rfl)
    | ((with_reducible apply Wo_gf); (exact rfl); ((conv => lhs; simp -implicitDefEqProofs [*]) <;> exact rfl); (exact rfl))
    | ((with_reducible apply Wo_gx); (exact rfl); ((conv => lhs; simp -implicitDefEqProofs [*]) <;> exact rfl))
    | ((with_reducible apply Wo_gsT); (exact rfl); ((conv => lhs; simp -implicitDefEqProofs [*]) <;> exact rfl))
    | ((with_reducible apply Wo_gsF); (exact rfl); ((conv => lhs; simp -implicitDefEqProofs [*]) <;> exact rfl))
    | ((with_reducible apply Wd_gsT); (exact rfl); ((conv => lhs; simp -implicitDefEqProofs [*]) <;> exact rfl))
    | ((with_reducible apply Wd_gsF); (exact rfl); ((conv => lhs; simp -implicitDefEqProofs [*]) <;> exact rfl))
    | ((with_reducible first | apply W_srdl | apply W_rdl); kernel_rfl)
    | ((with_reducible apply Wd_nil); exact rfl)
    | ((with_reducible apply inB_o); rotate_left; exact rfl)
    | (intro h h'; try simp [*, -h] at h'))
  all_goals rfl
set_option maxHeartbeats 4000000 in
theorem p13_used2 (s m : D4) (n : Int) (hn : n < 0 ∨ 4 ≤ n) : (lim Tryz.prog E47 X47).dat 13 [.agg (s.row ++ [iv 2, iv n]), .agg m.row] = some [.agg zS, .agg zG, iv 9] := by
  refine fnW Tryz.func13 rfl rfl bodyOk_13 rfl rtys_13 rfl ?_
  have h26 : (lim Tryz.prog E47 X47).dat 26 [iv 2] = some [bv true] := e30 2
  have b1 : IntKind.i64.wrap (2 ^ min 2 IntKind.i64.bits) = 4 := by decide +kernel
  have b2 : IntKind.i64.wrap 4 = 4 := by decide +kernel
  obtain ⟨s0, s1, s2, s3⟩ := s
  obtain ⟨m0, m1, m2, m3⟩ := m
  simp only [D4.row, List.cons_append, List.nil_append, zS, zG] at *
  by_cases h1 : n < 0
  · clear hn
    repeat' (first
      | ((with_reducible first | apply Wo_u | apply Wo_n | apply ex2 | apply W_sc | apply W_c | apply Wd_u | apply Wd_n | apply ex4 | apply EndQ_ret | apply EndQ_normal); (conv => lhs; simp -implicitDefEqProofs [*]) <;> exact rfl)
      | (with_reducible first | apply Wo_nil | apply W_ss | apply W_srl | apply W_rl | apply W_sblock | apply W_block | apply W_sskip | apply W_skip | apply W_sret | apply W_ret | apply W_sexit | apply W_exit | apply thenW_n | apply thenW_r | apply thenW_e | apply inB_n | apply inB_r | apply inB_e)
      | ((with_reducible apply Wo_gt); (exact rfl); ((conv => lhs; simp -implicitDefEqProofs [*]) <;> exact rfl); (conv => lhs; simp -implicitDefEqProofs [*]) <;> exact rfl)
      | ((with_reducible apply Wo_gf); (exact rfl); ((conv => lhs; simp -implicitDefEqProofs [*]) <;> exact rfl); (exact rfl))
      | ((with_reducible apply Wo_gx); (exact rfl); ((conv => lhs; simp -implicitDefEqProofs [*]) <;> exact rfl))
      | ((with_reducible apply Wo_gsT); (exact rfl); ((conv => lhs; simp -implicitDefEqProofs [*]) <;> exact rfl))
      | ((with_reducible apply Wo_gsF); (exact rfl); ((conv => lhs; simp -implicitDefEqProofs [*]) <;> exact rfl))
      | ((with_reducible apply Wd_gsT); (exact rfl); ((conv => lhs; simp -implicitDefEqProofs [*]) <;> exact rfl))
      | ((with_reducible apply Wd_gsF); (exact rfl); ((conv => lhs; simp -implicitDefEqProofs [*]) <;> exact rfl))
      | ((with_reducible first | apply W_srdl | apply W_rdl); kernel_rfl)
      | ((with_reducible apply Wd_nil); exact rfl)
      | ((with_reducible apply inB_o); rotate_left; exact rfl)
      | (intro h h'; try simp [*, -h] at h'))
    all_goals rfl
  · have h2 : 4 ≤ n := by omega
    clear hn
    repeat' (first
      | ((with_reducible first | apply Wo_u | apply Wo_n | apply ex2 | apply W_sc | apply W_c | apply Wd_u | apply Wd_n | apply ex4 | apply EndQ_ret | apply EndQ_normal); (conv => lhs; simp -implicitDefEqProofs [*]) <;> exact rfl)
      | (with_reducible first | apply Wo_nil | apply W_ss | apply W_srl | apply W_rl | apply W_sblock | apply W_block | apply W_sskip | apply W_skip | apply W_sret | apply W_ret | apply W_sexit | apply W_exit | apply thenW_n | apply thenW_r | apply thenW_e | apply inB_n | apply inB_r | apply inB_e)
      | ((with_reducible apply Wo_gt); (exact rfl); ((conv => lhs; simp -implicitDefEqProofs [*]) <;> exact rfl); (conv => lhs; simp -implicitDefEqProofs [*]) <;> exact rfl)
      | ((with_reducible apply Wo_gf); (exact rfl); ((conv => lhs; simp -implicitDefEqProofs [*]) <;> exact rfl); (exact rfl))
      | ((with_reducible apply Wo_gx); (exact rfl); ((conv => lhs; simp -implicitDefEqProofs [*]) <;> exact rfl))
      | ((with_reducible apply Wo_gsT); (exact rfl); ((conv => lhs; simp -implicitDefEqProofs [*]) <;> exact rfl))
      | ((with_reducible apply Wo_gsF); (exact rfl); ((conv => lhs; simp -implicitDefEqProofs [*]) <;> exact rfl))
      | ((with_reducible apply Wd_gsT); (exact rfl); ((conv => lhs; simp -implicitDefEqProofs [*]) <;> exact rfl))
      | ((with_reducible apply Wd_gsF); (exact rfl); ((conv => lhs; simp -implicitDefEqProofs [*]) <;> exact rfl))
      | ((with_reducible first | apply W_srdl | apply W_rdl); kernel_rfl)
      | ((with_reducible apply Wd_nil); exact rfl)
      | ((with_reducible apply inB_o); rotate_left; exact rfl)
      | (intro h h'; try simp [*, -h] at h'))
    all_goals rfl
set_option maxRecDepth 100000 in
set_option maxHeartbeats 4000000 in
theorem r38_2 (s : D4) : (lim Tryz.prog E47 X47).dat 38 [.agg s.row, iv 2] = some [.vec 4 (rowG [pubRt s 0, pubRt s 1, pubRt s 2, pubRt s 3])] := runXd (n := 200) (by kernel_rfl)
set_option maxHeartbeats 4000000 in
theorem r33_arg2 (s m : D4) (n : Int) (hn : n < 0 ∨ 4 ≤ n) : (lim Tryz.prog E47 X47).dat 33 [.agg s.row, iv 2, iv n, .agg m.row] = some [.agg zG, iv 1] := by
  refine fnW Tryz.func33 rfl rfl bodyOk_33 rfl rtys_33 rfl ?_
  have h38 := r38_2 s
  have hl : (rowG [pubRt s 0, pubRt s 1, pubRt s 2, pubRt s 3]).length = 4 := rfl
  generalize rowG [pubRt s 0, pubRt s 1, pubRt s 2, pubRt s 3] = RG at *
  obtain ⟨s0, s1, s2, s3⟩ := s
  obtain ⟨m0, m1, m2, m3⟩ := m
  simp only [D4.row, List.cons_append, List.nil_append, zS, zG] at *
  by_cases h1 : n < 0
  · clear hn
    repeat' (first
      | ((with_reducible first | apply Wo_u | apply Wo_n | apply ex2 | apply W_sc | apply W_c | apply Wd_u | apply Wd_n | apply ex4 | apply EndQ_ret | apply EndQ_normal); (conv => lhs; simp -implicitDefEqProofs [*]) <;> exact rfl)
      | (with_reducible first | apply Wo_nil | apply W_ss | apply W_srl | apply W_rl | apply W_sblock | apply W_block | apply W_sskip | apply W_skip | apply W_sret | apply W_ret | apply W_sexit | apply W_exit | apply thenW_n | apply thenW_r | apply thenW_e | apply inB_n | apply inB_r | apply inB_e)
      | ((with_reducible apply Wo_gt); (exact rfl); ((conv => lhs; simp -implicitDefEqProofs [*]) <;> exact rfl); (conv => lhs; simp -implicitDefEqProofs [*]) <;> exact rfl)
      | ((with_reducible apply Wo_gf); (exact rfl); ((conv => lhs; simp -implicitDefEqProofs [*]) <;> exact rfl); (exact rfl))
      | ((with_reducible apply Wo_gx); (exact rfl); ((conv => lhs; simp -implicitDefEqProofs [*]) <;> exact rfl))
      | ((with_reducible apply Wo_gsT); (exact rfl); ((conv => lhs; simp -implicitDefEqProofs [*]) <;> exact rfl))
      | ((with_reducible apply Wo_gsF); (exact rfl); ((conv => lhs; simp -implicitDefEqProofs [*]) <;> exact rfl))
      | ((with_reducible apply Wd_gsT); (exact rfl); ((conv => lhs; simp -implicitDefEqProofs [*]) <;> exact rfl))
      | ((with_reducible apply Wd_gsF); (exact rfl); ((conv => lhs; simp -implicitDefEqProofs [*]) <;> exact rfl))
      | ((with_reducible first | apply W_srdl | apply W_rdl); kernel_rfl)
      | ((with_reducible apply Wd_nil); exact rfl)
      | ((with_reducible apply inB_o); rotate_left; exact rfl)
      | (intro h h'; try simp [*, -h] at h'))
    all_goals rfl
  · have h2 : 4 ≤ n := by omega
    clear hn
    repeat' (first
      | ((with_reducible first | apply Wo_u | apply Wo_n | apply ex2 | apply W_sc | apply W_c | apply Wd_u | apply Wd_n | apply ex4 | apply EndQ_ret | apply EndQ_normal); (conv => lhs; simp -implicitDefEqProofs [*]) <;> exact rfl)
      | (with_reducible first | apply Wo_nil | apply W_ss | apply W_srl | apply W_rl | apply W_sblock | apply W_block | apply W_sskip | apply W_skip | apply W_sret | apply W_ret | apply W_sexit | apply W_exit | apply thenW_n | apply thenW_r | apply thenW_e | apply inB_n | apply inB_r | apply inB_e)
      | ((with_reducible apply Wo_gt); (exact rfl); ((conv => lhs; simp -implicitDefEqProofs [*]) <;> exact rfl); (conv => lhs; simp -implicitDefEqProofs [*]) <;> exact rfl)
      | ((with_reducible apply Wo_gf); (exact rfl); ((conv => lhs; simp -implicitDefEqProofs [*]) <;> exact rfl); (exact rfl))
      | ((with_reducible apply Wo_gx); (exact rfl); ((conv => lhs; simp -implicitDefEqProofs [*]) <;> exact rfl))
      | ((with_reducible apply Wo_gsT); (exact rfl); ((conv => lhs; simp -implicitDefEqProofs [*]) <;> exact rfl))
      | ((with_reducible apply Wo_gsF); (exact rfl); ((conv => lhs; simp -implicitDefEqProofs [*]) <;> exact rfl))
      | ((with_reducible apply Wd_gsT); (exact rfl); ((conv => lhs; simp -implicitDefEqProofs [*]) <;> exact rfl))
      | ((with_reducible apply Wd_gsF); (exact rfl); ((conv => lhs; simp -implicitDefEqProofs [*]) <;> exact rfl))
      | ((with_reducible first | apply W_srdl | apply W_rdl); kernel_rfl)
      | ((with_reducible apply Wd_nil); exact rfl)
      | ((with_reducible apply inB_o); rotate_left; exact rfl)
      | (intro h h'; try simp [*, -h] at h'))
    all_goals rfl
set_option maxHeartbeats 4000000 in
theorem r16_used2 (s m : D4) (n : Int) (hn : n < 0 ∨ 4 ≤ n) : (lim Tryz.prog E47 X47).dat 16 [.agg (s.row ++ [iv 2, iv n]), .agg m.row] = some [.agg zS, .agg zG, iv 9] := by
  refine fnW Tryz.func16 rfl rfl bodyOk_16 rfl rtys_16 rfl ?_
  have h33 := r33_arg2 s m n hn
  obtain ⟨s0, s1, s2, s3⟩ := s
  obtain ⟨m0, m1, m2, m3⟩ := m
  simp only [D4.row, List.cons_append, List.nil_append, zS, zG] at *
  clear hn
  repeat' (first
    | ((with_reducible first | apply Wo_u | apply Wo_n | apply ex2 | apply W_sc | apply W_c | apply Wd_u | apply Wd_n | apply ex4 | apply EndQ_ret | apply EndQ_normal); (conv => lhs; simp -implicitDefEqProofs [*]) <;> exact rfl)
    | (with_reducible first | apply Wo_nil | apply W_ss | apply W_srl | apply W_rl | apply W_sblock | apply W_block | apply W_sskip | apply W_skip | apply W_sret | apply W_ret | apply W_sexit | apply W_exit | apply thenW_n | apply thenW_r | apply thenW_e | apply inB_n | apply inB_r | apply inB_e)
    | ((with_reducible apply Wo_gt); (exact rfl); ((conv => lhs; simp -implicitDefEqProofs [*]) <;> exact rfl); (conv => lhs; simp -implicitDefEqProofs [*]) <;> exact rfl)
    | ((with_reducible apply Wo_gf); (exact rfl); ((conv => lhs; simp -implicitDefEqProofs [*]) <;> exact rfl); (exact rfl))
    | ((with_reducible apply Wo_gx); (exact rfl); ((conv => lhs; simp -implicitDefEqProofs [*]) <;> exact rfl))
    | ((with_reducible apply Wo_gsT); (exact rfl); ((conv => lhs; simp -implicitDefEqProofs [*]) <;> exact rfl))
    | ((with_reducible apply Wo_gsF); (exact rfl); ((conv => lhs; simp -implicitDefEqProofs [*]) <;> exact rfl))
    | ((with_reducible apply Wd_gsT); (exact rfl); ((conv => lhs; simp -implicitDefEqProofs [*]) <;> exact rfl))
    | ((with_reducible apply Wd_gsF); (exact rfl); ((conv => lhs; simp -implicitDefEqProofs [*]) <;> exact rfl))
    | ((with_reducible first | apply W_srdl | apply W_rdl); kernel_rfl)
    | ((with_reducible apply Wd_nil); exact rfl)
    | ((with_reducible apply inB_o); rotate_left; exact rfl)
    | (intro h h'; try simp [*, -h] at h'))
  all_goals rfl
set_option maxHeartbeats 4000000 in
theorem p5_err (s a b : D4) (h n er : Int) (he : er ≠ 0) (i : ∀ m : D4, (lim Tryz.prog E47 X47).dat 13 [.agg (s.row ++ [iv h, iv n]), .agg m.row] = some [.agg zS, .agg zG, iv er]) : (lim Tryz.prog E47 X47).dat 5 [.agg (s.row ++ [iv h, iv n]), .agg (a.row ++ b.row)] = some [.agg zS, .agg (d4z.row ++ zG), iv er] := by
  refine fnW Tryz.func5 rfl rfl bodyOk_5 rfl rtys_5 rfl ?_
  have h14 := e19 a b
  have h13 := i (linkP a b)
  clear i
  unfold d4z
  generalize linkP a b = m at *
  obtain ⟨s0, s1, s2, s3⟩ := s
  obtain ⟨m0, m1, m2, m3⟩ := m
  obtain ⟨a0, a1, a2, a3⟩ := a
  obtain ⟨b0, b1, b2, b3⟩ := b
  simp only [D4.row, List.cons_append, List.nil_append, zS, zG] at *

  repeat' (first
    | ((with_reducible first | apply Wo_u | apply Wo_n | apply ex2 | apply W_sc | apply W_c | apply Wd_u | apply Wd_n | apply ex4 | apply EndQ_ret | apply EndQ_normal); (conv => lhs; simp -implicitDefEqProofs [*]) <;> exact rfl)
    | (with_reducible first | apply Wo_nil | apply W_ss | apply W_srl | apply W_rl | apply W_sblock | apply W_block | apply W_sskip | apply W_skip | apply W_sret | apply W_ret | apply W_sexit | apply W_exit | apply thenW_n | apply thenW_r | apply thenW_e | apply inB_n | apply inB_r | apply inB_e)
    | ((with_reducible apply Wo_gt); (exact rfl); ((conv => lhs; simp -implicitDefEqProofs [*]) <;> exact rfl); (conv => lhs; simp -implicitDefEqProofs [*]) <;> exact rfl)
    | ((with_reducible apply Wo_gf); (exact rfl); ((conv => lhs; simp -implicitDefEqProofs [*]) <;> exact rfl); (exact rfl))
    | ((with_reducible apply Wo_gx); (exact rfl); ((conv => lhs; simp -implicitDefEqProofs [*]) <;> exact rfl))
    | ((with_reducible apply Wo_gsT); (exact rfl); ((conv => lhs; simp -implicitDefEqProofs [*]) <;> exact rfl))
    | ((with_reducible apply Wo_gsF); (exact rfl); ((conv => lhs; simp -implicitDefEqProofs [*]) <;> exact rfl))
    | ((with_reducible apply Wd_gsT); (exact rfl); ((conv => lhs; simp -implicitDefEqProofs [*]) <;> exact rfl))
    | ((with_reducible apply Wd_gsF); (exact rfl); ((conv => lhs; simp -implicitDefEqProofs [*]) <;> exact rfl))
    | ((with_reducible first | apply W_srdl | apply W_rdl); kernel_rfl)
    | ((with_reducible apply Wd_nil); exact rfl)
    | ((with_reducible apply inB_o); rotate_left; exact rfl)
    | (intro h h'; try simp [*, -h] at h'))
  all_goals rfl
set_option maxHeartbeats 4000000 in
theorem r6_err (s a b : D4) (h n er : Int) (he : er ≠ 0) (i : ∀ m : D4, (lim Tryz.prog E47 X47).dat 16 [.agg (s.row ++ [iv h, iv n]), .agg m.row] = some [.agg zS, .agg zG, iv er]) : (lim Tryz.prog E47 X47).dat 6 [.agg (s.row ++ [iv h, iv n]), .agg (a.row ++ b.row)] = some [.agg zS, .agg (d4z.row ++ zG), iv er] := by
  refine fnW Tryz.func6 rfl rfl bodyOk_6 rfl rtys_6 rfl ?_
  have h17 := f17 a b
  have h16 := i (linkR a b)
  clear i
  unfold d4z
  generalize linkR a b = m at *
  obtain ⟨s0, s1, s2, s3⟩ := s
  obtain ⟨m0, m1, m2, m3⟩ := m
  obtain ⟨a0, a1, a2, a3⟩ := a
  obtain ⟨b0, b1, b2, b3⟩ := b
  simp only [D4.row, List.cons_append, List.nil_append, zS, zG] at *

  repeat' (first
    | ((with_reducible first | apply Wo_u | apply Wo_n | apply ex2 | apply W_sc | apply W_c | apply Wd_u | apply Wd_n | apply ex4 | apply EndQ_ret | apply EndQ_normal); (conv => lhs; simp -implicitDefEqProofs [*]) <;> exact rfl)
    | (with_reducible first | apply Wo_nil | apply W_ss | apply W_srl | apply W_rl | apply W_sblock | apply W_block | apply W_sskip | apply W_skip | apply W_sret | apply W_ret | apply W_sexit | apply W_exit | apply thenW_n | apply thenW_r | apply thenW_e | apply inB_n | apply inB_r | apply inB_e)
    | ((with_reducible apply Wo_gt); (exact rfl); ((conv => lhs; simp -implicitDefEqProofs [*]) <;> exact rfl); (conv => lhs; simp -implicitDefEqProofs [*]) <;> exact rfl)
    | ((with_reducible apply Wo_gf); (exact rfl); ((conv => lhs; simp -implicitDefEqProofs [*]) <;> exact rfl); (exact rfl))
    | ((with_reducible apply Wo_gx); (exact rfl); ((conv => lhs; simp -implicitDefEqProofs [*]) <;> exact rfl))
    | ((with_reducible apply Wo_gsT); (exact rfl); ((conv => lhs; simp -implicitDefEqProofs [*]) <;> exact rfl))
    | ((with_reducible apply Wo_gsF); (exact rfl); ((conv => lhs; simp -implicitDefEqProofs [*]) <;> exact rfl))
    | ((with_reducible apply Wd_gsT); (exact rfl); ((conv => lhs; simp -implicitDefEqProofs [*]) <;> exact rfl))
    | ((with_reducible apply Wd_gsF); (exact rfl); ((conv => lhs; simp -implicitDefEqProofs [*]) <;> exact rfl))
    | ((with_reducible first | apply W_srdl | apply W_rdl); kernel_rfl)
    | ((with_reducible apply Wd_nil); exact rfl)
    | ((with_reducible apply inB_o); rotate_left; exact rfl)
    | (intro h h'; try simp [*, -h] at h'))
  all_goals rfl
set_option maxHeartbeats 4000000 in
theorem c7 (n : Int) (l1 l2 : List D4) (h1 : l1.length ≤ 1000000) (h2 : l2.length ≤ 1000000) : (lim Tryz.prog E47 X47).dat 7 [.agg [iv n, .sl false 4 (rowG l1), .sl false 4 (rowG l2)], .agg [iv n, .sl false 4 (rowG l1), .sl false 4 (rowG l2)]] = some [bv true] := by
  refine fnW Tryz.func7 rfl rfl bodyOk_7 rfl rtys_7 rfl ?_
  have i1 := f19 l1 h1
  have i2 := f19 l2 h2
  generalize rowG l1 = R1 at *
  generalize rowG l2 = R2 at *
  clear h1 h2
  repeat' (first
    | ((with_reducible first | apply Wo_u | apply Wo_n | apply ex2 | apply W_sc | apply W_c | apply Wd_u | apply Wd_n | apply ex4 | apply EndQ_ret | apply EndQ_normal); (conv => lhs; simp -implicitDefEqProofs [*]) <;> exact rfl)
    | (with_reducible first | apply Wo_nil | apply W_ss | apply W_srl | apply W_rl | apply W_sblock | apply W_block | apply W_sskip | apply W_skip | apply W_sret | apply W_ret | apply W_sexit | apply W_exit | apply thenW_n | apply thenW_r | apply thenW_e | apply inB_n | apply inB_r | apply inB_e)
    | ((with_reducible apply Wo_gt); (exact rfl); ((conv => lhs; simp -implicitDefEqProofs [*]) <;> exact rfl); (conv => lhs; simp -implicitDefEqProofs [*]) <;> exact rfl)
    | ((with_reducible apply Wo_gf); (exact rfl); ((conv => lhs; simp -implicitDefEqProofs [*]) <;> exact rfl); (exact rfl))
    | ((with_reducible apply Wo_gx); (exact rfl); ((conv => lhs; simp -implicitDefEqProofs [*]) <;> exact rfl))
    | ((with_reducible apply Wo_gsT); (exact rfl); ((conv => lhs; simp -implicitDefEqProofs [*]) <;> exact rfl))
    | ((with_reducible apply Wo_gsF); (exact rfl); ((conv => lhs; simp -implicitDefEqProofs [*]) <;> exact rfl))
    | ((with_reducible apply Wd_gsT); (exact rfl); ((conv => lhs; simp -implicitDefEqProofs [*]) <;> exact rfl))
    | ((with_reducible apply Wd_gsF); (exact rfl); ((conv => lhs; simp -implicitDefEqProofs [*]) <;> exact rfl))
    | ((with_reducible first | apply W_srdl | apply W_rdl); kernel_rfl)
    | ((with_reducible apply Wd_nil); exact rfl)
    | ((with_reducible apply inB_o); rotate_left; exact rfl)
    | (intro h h'; try simp [*, -h] at h'))
  all_goals rfl
set_option maxRecDepth 200000 in
set_option maxHeartbeats 8000000 in
theorem law_core (aw : (lim Tryz.prog E47 X47).dat 4 [] = some [bv true]) (s a b : D4) (h n : Int) (h3 : h ≠ 3) (h4 : h ≠ 4) (t : D4) (x y : Int) (B : D4) (nn : Int) (l1 l2 : List D4) (k1 k2 : Nat) (hl1 : l1.length = k1) (hl2 : l2.length = k2) (er : Int)
    (i5 : (lim Tryz.prog E47 X47).dat 5 [.agg (s.row ++ [iv h, iv n]), .agg (a.row ++ b.row)] = some [.agg (t.row ++ [iv x, iv y]), .agg (B.row ++ [iv nn, .vec 4 (rowG l1), .vec 4 (rowG l2)]), iv er])
    (i6 : (lim Tryz.prog E47 X47).dat 6 [.agg (s.row ++ [iv h, iv n]), .agg (a.row ++ b.row)] = some [.agg (t.row ++ [iv x, iv y]), .agg (B.row ++ [iv nn, .vec 4 (rowG l1), .vec 4 (rowG l2)]), iv er])
    (i7 : (lim Tryz.prog E47 X47).dat 7 [.agg [iv nn, .sl false 4 (rowG l1), .sl false 4 (rowG l2)], .agg [iv nn, .sl false 4 (rowG l1), .sl false 4 (rowG l2)]] = some [bv true])
    (i8 : er = 0 → (lim Tryz.prog E47 X47).dat 8 [.agg (a.row ++ b.row), .agg (B.row ++ [iv nn, .sl false 4 (rowG l1), .sl false 4 (rowG l2)])] = some [bv true]) :
    (lim Tryz.prog E47 X47).dat 3 [.agg (s.row ++ [iv h, iv n]), .agg (a.row ++ b.row)] = some [bv true] := by
  refine fnW Tryz.func3 rfl rfl bodyOk_3 rfl rtys_3 rfl ?_
  have z1 : (rowG l1).length = k1 := by rw [List.length_map, hl1]
  have z2 : (rowG l2).length = k2 := by rw [List.length_map, hl2]
  have z3 : (rowG l1).take k1 = rowG l1 := List.take_of_length_le (by omega)
  have z4 : (rowG l2).take k2 = rowG l2 := List.take_of_length_le (by omega)
  have hT : eqL (t.row ++ [iv x, iv y]) (t.row ++ [iv x, iv y]) = some true := by simp [eqL, D4.row]
  have hB := eqL_refl B
  clear hl1 hl2
  generalize rowG l1 = R1 at *
  generalize rowG l2 = R2 at *
  obtain ⟨s0, s1, s2, s3⟩ := s
  obtain ⟨a0, a1, a2, a3⟩ := a
  obtain ⟨b0, b1, b2, b3⟩ := b
  obtain ⟨t0, t1, t2, t3⟩ := t
  obtain ⟨c0, c1, c2, c3⟩ := B
  simp only [D4.row, List.cons_append, List.nil_append] at *
  by_cases he : er = 0
  · have i8' := i8 he
    clear i8
    subst he
    repeat' (first
      | ((with_reducible first | apply Wo_u | apply Wo_n | apply ex2 | apply W_sc | apply W_c | apply Wd_u | apply Wd_n | apply ex4 | apply EndQ_ret | apply EndQ_normal); (conv => lhs; simp -implicitDefEqProofs [*]) <;> exact rfl)
      | (with_reducible first | apply Wo_nil | apply W_ss | apply W_srl | apply W_rl | apply W_sblock | apply W_block | apply W_sskip | apply W_skip | apply W_sret | apply W_ret | apply W_sexit | apply W_exit | apply thenW_n | apply thenW_r | apply thenW_e | apply inB_n | apply inB_r | apply inB_e)
      | ((with_reducible apply Wo_gt); (exact rfl); ((conv => lhs; simp -implicitDefEqProofs [*]) <;> exact rfl); (conv => lhs; simp -implicitDefEqProofs [*]) <;> exact rfl)
      | ((with_reducible apply Wo_gf); (exact rfl); ((conv => lhs; simp -implicitDefEqProofs [*]) <;> exact rfl); (exact rfl))
      | ((with_reducible apply Wo_gx); (exact rfl); ((conv => lhs; simp -implicitDefEqProofs [*]) <;> exact rfl))
      | ((with_reducible apply Wo_gsT); (exact rfl); ((conv => lhs; simp -implicitDefEqProofs [*]) <;> exact rfl))
      | ((with_reducible apply Wo_gsF); (exact rfl); ((conv => lhs; simp -implicitDefEqProofs [*]) <;> exact rfl))
      | ((with_reducible apply Wd_gsT); (exact rfl); ((conv => lhs; simp -implicitDefEqProofs [*]) <;> exact rfl))
      | ((with_reducible apply Wd_gsF); (exact rfl); ((conv => lhs; simp -implicitDefEqProofs [*]) <;> exact rfl))
      | ((with_reducible first | apply W_srdl | apply W_rdl); kernel_rfl)
      | ((with_reducible apply Wd_nil); exact rfl)
      | ((with_reducible apply inB_o); rotate_left; exact rfl)
      | (intro h h'; try simp [*, -h] at h'))
    all_goals rfl
  · clear i8
    repeat' (first
      | ((with_reducible first | apply Wo_u | apply Wo_n | apply ex2 | apply W_sc | apply W_c | apply Wd_u | apply Wd_n | apply ex4 | apply EndQ_ret | apply EndQ_normal); (conv => lhs; simp -implicitDefEqProofs [*]) <;> exact rfl)
      | (with_reducible first | apply Wo_nil | apply W_ss | apply W_srl | apply W_rl | apply W_sblock | apply W_block | apply W_sskip | apply W_skip | apply W_sret | apply W_ret | apply W_sexit | apply W_exit | apply thenW_n | apply thenW_r | apply thenW_e | apply inB_n | apply inB_r | apply inB_e)
      | ((with_reducible apply Wo_gt); (exact rfl); ((conv => lhs; simp -implicitDefEqProofs [*]) <;> exact rfl); (conv => lhs; simp -implicitDefEqProofs [*]) <;> exact rfl)
      | ((with_reducible apply Wo_gf); (exact rfl); ((conv => lhs; simp -implicitDefEqProofs [*]) <;> exact rfl); (exact rfl))
      | ((with_reducible apply Wo_gx); (exact rfl); ((conv => lhs; simp -implicitDefEqProofs [*]) <;> exact rfl))
      | ((with_reducible apply Wo_gsT); (exact rfl); ((conv => lhs; simp -implicitDefEqProofs [*]) <;> exact rfl))
      | ((with_reducible apply Wo_gsF); (exact rfl); ((conv => lhs; simp -implicitDefEqProofs [*]) <;> exact rfl))
      | ((with_reducible apply Wd_gsT); (exact rfl); ((conv => lhs; simp -implicitDefEqProofs [*]) <;> exact rfl))
      | ((with_reducible apply Wd_gsF); (exact rfl); ((conv => lhs; simp -implicitDefEqProofs [*]) <;> exact rfl))
      | ((with_reducible first | apply W_srdl | apply W_rdl); kernel_rfl)
      | ((with_reducible apply Wd_nil); exact rfl)
      | ((with_reducible apply inB_o); rotate_left; exact rfl)
      | (intro h h'; try simp [*, -h] at h'))
    all_goals rfl
set_option maxHeartbeats 4000000 in
theorem law_34 (aw : (lim Tryz.prog E47 X47).dat 4 [] = some [bv true]) (s a b : D4) (h n : Int) (hh : h = 3 ∨ h = 4) : (lim Tryz.prog E47 X47).dat 3 [.agg (s.row ++ [iv h, iv n]), .agg (a.row ++ b.row)] = some [bv true] := by
  refine fnW Tryz.func3 rfl rfl bodyOk_3 rfl rtys_3 rfl ?_
  obtain ⟨s0, s1, s2, s3⟩ := s
  obtain ⟨a0, a1, a2, a3⟩ := a
  obtain ⟨b0, b1, b2, b3⟩ := b
  simp only [D4.row, List.cons_append, List.nil_append] at *
  rcases hh with rfl | rfl
  all_goals
    repeat' (first
      | ((with_reducible first | apply Wo_u | apply Wo_n | apply ex2 | apply W_sc | apply W_c | apply Wd_u | apply Wd_n | apply ex4 | apply EndQ_ret | apply EndQ_normal); (conv => lhs; simp -implicitDefEqProofs [*]) <;> exact rfl)
      | (with_reducible first | apply Wo_nil | apply W_ss | apply W_srl | apply W_rl | apply W_sblock | apply W_block | apply W_sskip | apply W_skip | apply W_sret | apply W_ret | apply W_sexit | apply W_exit | apply thenW_n | apply thenW_r | apply thenW_e | apply inB_n | apply inB_r | apply inB_e)
      | ((with_reducible apply Wo_gt); (exact rfl); ((conv => lhs; simp -implicitDefEqProofs [*]) <;> exact rfl); (conv => lhs; simp -implicitDefEqProofs [*]) <;> exact rfl)
      | ((with_reducible apply Wo_gf); (exact rfl); ((conv => lhs; simp -implicitDefEqProofs [*]) <;> exact rfl); (exact rfl))
      | ((with_reducible apply Wo_gx); (exact rfl); ((conv => lhs; simp -implicitDefEqProofs [*]) <;> exact rfl))
      | ((with_reducible apply Wo_gsT); (exact rfl); ((conv => lhs; simp -implicitDefEqProofs [*]) <;> exact rfl))
      | ((with_reducible apply Wo_gsF); (exact rfl); ((conv => lhs; simp -implicitDefEqProofs [*]) <;> exact rfl))
      | ((with_reducible apply Wd_gsT); (exact rfl); ((conv => lhs; simp -implicitDefEqProofs [*]) <;> exact rfl))
      | ((with_reducible apply Wd_gsF); (exact rfl); ((conv => lhs; simp -implicitDefEqProofs [*]) <;> exact rfl))
      | ((with_reducible first | apply W_srdl | apply W_rdl); kernel_rfl)
      | ((with_reducible apply Wd_nil); exact rfl)
      | ((with_reducible apply inB_o); rotate_left; exact rfl)
      | (intro h h'; try simp [*, -h] at h'))
  all_goals rfl
theorem f3 (aw : (lim Tryz.prog E47 X47).dat 4 [] = some [bv true]) (s a b : D4) (h n : Int) (hs : s.U) (ha : a.U) (hb : b.U) : (lim Tryz.prog E47 X47).dat 3 [.agg (s.row ++ [iv h, iv n]), .agg (a.row ++ b.row)] = some [bv true] := by
  by_cases h3 : h = 3
  · exact law_34 aw s a b h n (.inl h3)
  by_cases h4 : h = 4
  · exact law_34 aw s a b h n (.inr h4)
  by_cases hh : 0 ≤ h ∧ h ≤ 4
  · have hc : h = 0 ∨ h = 1 ∨ h = 2 := by omega
    rcases hc with rfl | rfl | rfl
    · by_cases hn : n < 0 ∨ 1 ≤ n
      · exact law_core aw s a b 0 n h3 h4 d4z 0 0 d4z 0 [] [] 0 0 rfl rfl 9 (p5_err s a b 0 n 9 (by omega) fun m => p13_used0 s m n hn) (r6_err s a b 0 n 9 (by omega) fun m => r16_used0 s m n hn) (c7 0 [] [] (by simp) (by simp)) (fun c => absurd c (by omega))
      · have hc : n = 0 := by omega
        subst hc
        · exact law_core aw s a b 0 0 h3 h4 s 0 1 (pub0 s) 0 (signP (seedP s 0) (linkP a b)) ([]) 35 0 (signP_len _ _) rfl 0 (p5_00 s a b) (r6_00 s a b hs ha hb) (c7 0 _ _ (by rw [signP_len]; omega) (by simp)) (fun _ => c8_00 s a b)
    · by_cases hn : n < 0 ∨ 2 ≤ n
      · exact law_core aw s a b 1 n h3 h4 d4z 0 0 d4z 0 [] [] 0 0 rfl rfl 9 (p5_err s a b 1 n 9 (by omega) fun m => p13_used1 s m n hn) (r6_err s a b 1 n 9 (by omega) fun m => r16_used1 s m n hn) (c7 0 [] [] (by simp) (by simp)) (fun c => absurd c (by omega))
      · have hc : n = 0 ∨ n = 1 := by omega
        rcases hc with rfl | rfl
        · exact law_core aw s a b 1 0 h3 h4 s 1 1 (pub1 s) 0 (signP (seedP s 0) (linkP a b)) ([pubAt s 1]) 35 1 (signP_len _ _) rfl 0 (p5_10 s a b) (r6_10 s a b hs ha hb) (c7 0 _ _ (by rw [signP_len]; omega) (by simp)) (fun _ => c8_10 s a b)
        · exact law_core aw s a b 1 1 h3 h4 s 1 2 (pub1 s) 1 (signP (seedP s 1) (linkP a b)) ([pubAt s 0]) 35 1 (signP_len _ _) rfl 0 (p5_11 s a b) (r6_11 s a b hs ha hb) (c7 1 _ _ (by rw [signP_len]; omega) (by simp)) (fun _ => c8_11 s a b)
    · by_cases hn : n < 0 ∨ 4 ≤ n
      · exact law_core aw s a b 2 n h3 h4 d4z 0 0 d4z 0 [] [] 0 0 rfl rfl 9 (p5_err s a b 2 n 9 (by omega) fun m => p13_used2 s m n hn) (r6_err s a b 2 n 9 (by omega) fun m => r16_used2 s m n hn) (c7 0 [] [] (by simp) (by simp)) (fun c => absurd c (by omega))
      · have hc : n = 0 ∨ n = 1 ∨ n = 2 ∨ n = 3 := by omega
        rcases hc with rfl | rfl | rfl | rfl
        · exact law_core aw s a b 2 0 h3 h4 s 2 1 (pub2 s) 0 (signP (seedP s 0) (linkP a b)) ([pubAt s 1, pairP (pubAt s 2) (pubAt s 3)]) 35 2 (signP_len _ _) rfl 0 (p5_20 s a b) (r6_20 s a b hs ha hb) (c7 0 _ _ (by rw [signP_len]; omega) (by simp)) (fun _ => c8_20 s a b)
        · exact law_core aw s a b 2 1 h3 h4 s 2 2 (pub2 s) 1 (signP (seedP s 1) (linkP a b)) ([pubAt s 0, pairP (pubAt s 2) (pubAt s 3)]) 35 2 (signP_len _ _) rfl 0 (p5_21 s a b) (r6_21 s a b hs ha hb) (c7 1 _ _ (by rw [signP_len]; omega) (by simp)) (fun _ => c8_21 s a b)
        · exact law_core aw s a b 2 2 h3 h4 s 2 3 (pub2 s) 2 (signP (seedP s 2) (linkP a b)) ([pubAt s 3, pairP (pubAt s 0) (pubAt s 1)]) 35 2 (signP_len _ _) rfl 0 (p5_22 s a b) (r6_22 s a b hs ha hb) (c7 2 _ _ (by rw [signP_len]; omega) (by simp)) (fun _ => c8_22 s a b)
        · exact law_core aw s a b 2 3 h3 h4 s 2 4 (pub2 s) 3 (signP (seedP s 3) (linkP a b)) ([pubAt s 2, pairP (pubAt s 0) (pubAt s 1)]) 35 2 (signP_len _ _) rfl 0 (p5_23 s a b) (r6_23 s a b hs ha hb) (c7 3 _ _ (by rw [signP_len]; omega) (by simp)) (fun _ => c8_23 s a b)
  · exact law_core aw s a b h n h3 h4 d4z 0 0 d4z 0 [] [] 0 0 rfl rfl 2 (p5_err s a b h n 2 (by omega) fun m => p13_range s m h n hh) (r6_err s a b h n 2 (by omega) fun m => r16_range s m h n hh) (c7 0 [] [] (by simp) (by simp)) (fun c => absurd c (by omega))
end Go.Proofs.YtdokejnokhicbaaGreatDoor
