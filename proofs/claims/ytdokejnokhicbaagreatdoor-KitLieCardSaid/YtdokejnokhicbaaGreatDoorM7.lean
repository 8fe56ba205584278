/- Law 47: words as instructions, walked. -/
import Derived.Test.YtdokejnokhicbaaGreatDoorM6
namespace Go.Proofs.YtdokejnokhicbaaGreatDoor
open Go Go.Ab
set_option linter.unusedSimpArgs false
set_option linter.unusedVariables false
abbrev xv (n : Int) : AV := .sc (.int .u64 n)
set_option maxHeartbeats 1000000 in
theorem d51 (b : Bool)  : (lim Tryz.prog E47 X47).dat 107 [bv b] = some [uv (if b then 1 else 0)] := by
  refine fnW Tryz.func107 rfl rfl bodyOk_107 rfl rtys_107 rfl ?_
  cases b
  all_goals
    repeat' (first
      | ((with_reducible first | apply Wo_u | apply Wo_n | apply ex2 | apply W_sc | apply W_c | apply Wd_u | apply Wd_n | apply ex4 | apply EndQ_ret | apply EndQ_normal); (conv => lhs; simp -implicitDefEqProofs [*]) <;> exact rfl)
      | (with_reducible first | apply Wo_nil | apply W_ss | apply W_srl | apply W_rl | apply W_sblock | apply W_block | apply W_sskip | apply W_skip | apply W_sret | apply W_ret | apply W_sexit | apply W_exit | apply thenW_n | apply thenW_r | apply thenW_e | apply inB_n | apply inB_r | apply inB_e)
      | ((with_reducible apply Wo_gt); (exact rfl); ((conv => lhs; simp -implicitDefEqProofs [*]) <;> exact rfl); (conv => lhs; simp -implicitDefEqProofs [*]) <;> exact rfl)
      | ((with_reducible apply Wo_gf); (exact rfl); ((conv => lhs; simp -implicitDefEqProofs [*]) <;> exact rfl); (exact rfl))
      | ((with_reducible apply Wo_gx); (exact rfl); ((conv => lhs; simp -implicitDefEqProofs [*]) <;> exact rfl))
      | ((with_reducible apply Wo_gsT); (exact rfl); ((conv => lhs; simp -implicitDefEqProofs [*]) <;> exact rfl))
      | ((with_reducible apply Wo_gsF); (exact rfl); ((conv => lhs; simp -implicitDefEqProofs [*]) <;> exact rfl))
      | ((with_reducible apply Wd_gsT); (exact rfl); ((conv => lhs; simp -implicitDefEqProofs [*]) <;> exact rfl))
      | ((with_reducible apply Wd_gsF); (exact rfl); ((conv => lhs; simp -implicitDefEqProofs [*]) <;> exact rfl))
      | ((with_reducible first | apply W_srdl | apply W_rdl); kernel_rfl)
      | ((with_reducible apply Wd_nil); exact rfl)
      | ((with_reducible apply inB_o); rotate_left; exact rfl)
      | (intro h h'; try simp [*, -h] at h'))
  all_goals rfl
/-- Halved k times. -/
def hf (w : Int) : Nat → Int
  | 0 => w
  | k + 1 => hf w k / 2
theorem hf_le {w : Int} (h : U w) : ∀ k, U (hf w k)
  | 0 => h
  | k + 1 => by
    have := hf_le h k
    unfold U at this ⊢
    simp only [hf]
    omega
set_option maxHeartbeats 4000000 in
theorem d50 (w : Int) (hU : U w) : (lim Tryz.prog E47 X47).dat 106 [iv 13, uv w, uv 8] = some [uv (w / 256)] := by
  refine fnW Tryz.func106 rfl rfl bodyOk_106 rfl rtys_106 rfl ?_
  have e0 : IntKind.u64.wrap w = w := by unfold U at hU; rw [IntKind.wrap_u64]; omega
  repeat' (first
    | ((with_reducible first | apply Wo_u | apply Wo_n | apply ex2 | apply W_sc | apply W_c | apply Wd_u | apply Wd_n | apply ex4 | apply EndQ_ret | apply EndQ_normal); (conv => lhs; simp -implicitDefEqProofs [*]) <;> exact rfl)
    | (with_reducible first | apply Wo_nil | apply W_ss | apply W_srl | apply W_rl | apply W_sblock | apply W_block | apply W_sskip | apply W_skip | apply W_sret | apply W_ret | apply W_sexit | apply W_exit | apply thenW_n | apply thenW_r | apply thenW_e | apply inB_n | apply inB_r | apply inB_e)
    | ((with_reducible apply Wo_gt); (exact rfl); ((conv => lhs; simp -implicitDefEqProofs [*]) <;> exact rfl); (conv => lhs; simp -implicitDefEqProofs [*]) <;> exact rfl)
    | ((with_reducible apply Wo_gf); (exact rfl); ((conv => lhs; simp -implicitDefEqProofs [*]) <;> exact rfl); (exact rfl))
    | ((with_reducible apply Wo_gx); (exact rfl); ((conv => lhs; simp -implicitDefEqProofs [*]) <;> exact rfl))
    | ((with_reducible apply Wo_gsT); (exact rfl); ((conv => lhs; simp -implicitDefEqProofs [*]) <;> exact rfl))
    | ((with_reducible apply Wo_gsF); (exact rfl); ((conv => lhs; simp -implicitDefEqProofs [*]) <;> exact rfl))
    | ((with_reducible apply Wd_gsT); (exact rfl); ((conv => lhs; simp -implicitDefEqProofs [*]) <;> exact rfl))
    | ((with_reducible apply Wd_gsF); (exact rfl); ((conv => lhs; simp -implicitDefEqProofs [*]) <;> exact rfl))
    | ((with_reducible first | apply W_srdl | apply W_rdl); kernel_rfl)
    | ((with_reducible apply Wd_nil); exact rfl)
    | ((with_reducible apply inB_o); rotate_left; exact rfl)
    | (intro h h'; try simp [*, -h] at h'))
  refine W_loopS (n := 8) (fun s0 m q => ∃ k : Nat, m = 8 - k ∧ k ≤ 8 ∧ q.fr 0 = s0.fr 0 ∧ q.fr 2 = s0.fr 2 ∧ q.fr 8 = uv k ∧ q.fr 7 = xv (hf w k)) ⟨0, by simp, by omega, by simp, by simp, by simp, by simp [hf]⟩ ?_
  rintro m ⟨fr, hp⟩ ⟨k, rfl, hk, hs0, hs2, hs8, hs7⟩
  simp at hs0 hs2 hs8 hs7
  by_cases hlt : k < 8
  · have hh := hf_le hU k
    unfold U at hh
    have e1 : IntKind.u64.wrap ((hf w k).tdiv 2) = hf w (k + 1) := by
      rw [Int.tdiv_eq_ediv_of_nonneg hh.1, IntKind.wrap_u64]
      simp only [hf]; omega
    have hw : IntKind.u32.wrap ((k : Int) + 1) = (k : Int) + 1 := by rw [IntKind.wrap_u32]; omega
    have hlI : (k : Int) < 8 := by omega
    repeat' (first
      | ((with_reducible first | apply Wo_u | apply Wo_n | apply ex2 | apply W_sc | apply W_c | apply Wd_u | apply Wd_n | apply ex4 | apply EndQ_ret | apply EndQ_normal); (conv => lhs; simp -implicitDefEqProofs [*]) <;> exact rfl)
      | (with_reducible first | apply Wo_nil | apply W_ss | apply W_srl | apply W_rl | apply W_sblock | apply W_block | apply W_sskip | apply W_skip | apply W_sret | apply W_ret | apply W_sexit | apply W_exit | apply thenW_n | apply thenW_r | apply thenW_e | apply inB_n | apply inB_r | apply inB_e)
      | ((with_reducible apply Wo_gt); (exact rfl); ((conv => lhs; simp -implicitDefEqProofs [*]) <;> exact rfl); (conv => lhs; simp -implicitDefEqProofs [*]) <;> exact rfl)
      | ((with_reducible apply Wo_gf); (exact rfl); ((conv => lhs; simp -implicitDefEqProofs [*]) <;> exact rfl); (exact rfl))
      | ((with_reducible apply Wo_gx); (exact rfl); ((conv => lhs; simp -implicitDefEqProofs [*]) <;> exact rfl))
      | ((with_reducible apply Wo_gsT); (exact rfl); ((conv => lhs; simp -implicitDefEqProofs [*]) <;> exact rfl))
      | ((with_reducible apply Wo_gsF); (exact rfl); ((conv => lhs; simp -implicitDefEqProofs [*]) <;> exact rfl))
      | ((with_reducible apply Wd_gsT); (exact rfl); ((conv => lhs; simp -implicitDefEqProofs [*]) <;> exact rfl))
      | ((with_reducible apply Wd_gsF); (exact rfl); ((conv => lhs; simp -implicitDefEqProofs [*]) <;> exact rfl))
      | ((with_reducible first | apply W_srdl | apply W_rdl); kernel_rfl)
      | ((with_reducible apply Wd_nil); exact rfl)
      | ((with_reducible apply inB_o); rotate_left; exact rfl)
      | (intro h h'; try simp [*, -h] at h'))
    exact ⟨_, by omega, k + 1, rfl, hlt, by simp [*], by simp [*], by simp [*], by simp [*]⟩
  · obtain rfl : k = 8 := by omega
    have hh := hf_le hU 8
    unfold U at hh
    have e1 : hf w 8 = w / 256 := by simp only [hf]; omega
    have e2 : IntKind.u32.wrap (w / 256) = w / 256 := by rw [← e1, IntKind.wrap_u32]; omega
    rw [e1] at hs7
    simp only [Int.cast_ofNat_Int] at hs8
    repeat' (first
      | ((with_reducible first | apply Wo_u | apply Wo_n | apply ex2 | apply W_sc | apply W_c | apply Wd_u | apply Wd_n | apply ex4 | apply EndQ_ret | apply EndQ_normal); (conv => lhs; simp -implicitDefEqProofs [*]) <;> exact rfl)
      | (with_reducible first | apply Wo_nil | apply W_ss | apply W_srl | apply W_rl | apply W_sblock | apply W_block | apply W_sskip | apply W_skip | apply W_sret | apply W_ret | apply W_sexit | apply W_exit | apply thenW_n | apply thenW_r | apply thenW_e | apply inB_n | apply inB_r | apply inB_e)
      | ((with_reducible apply Wo_gt); (exact rfl); ((conv => lhs; simp -implicitDefEqProofs [*]) <;> exact rfl); (conv => lhs; simp -implicitDefEqProofs [*]) <;> exact rfl)
      | ((with_reducible apply Wo_gf); (exact rfl); ((conv => lhs; simp -implicitDefEqProofs [*]) <;> exact rfl); (exact rfl))
      | ((with_reducible apply Wo_gx); (exact rfl); ((conv => lhs; simp -implicitDefEqProofs [*]) <;> exact rfl))
      | ((with_reducible apply Wo_gsT); (exact rfl); ((conv => lhs; simp -implicitDefEqProofs [*]) <;> exact rfl))
      | ((with_reducible apply Wo_gsF); (exact rfl); ((conv => lhs; simp -implicitDefEqProofs [*]) <;> exact rfl))
      | ((with_reducible apply Wd_gsT); (exact rfl); ((conv => lhs; simp -implicitDefEqProofs [*]) <;> exact rfl))
      | ((with_reducible apply Wd_gsF); (exact rfl); ((conv => lhs; simp -implicitDefEqProofs [*]) <;> exact rfl))
      | ((with_reducible first | apply W_srdl | apply W_rdl); kernel_rfl)
      | ((with_reducible apply Wd_nil); exact rfl)
      | ((with_reducible apply inB_o); rotate_left; exact rfl)
      | (intro h h'; try simp [*, -h] at h'))
    all_goals rfl
set_option maxHeartbeats 4000000 in
theorem d47_4 (x y : Int) (hx : U x) (hy : U y) : (lim Tryz.prog E47 X47).dat 101 [iv 4, uv x, uv y] = some [uv ((x + y) % 4294967296), iv 0] := by
  refine fnW Tryz.func101 rfl rfl bodyOk_101 rfl rtys_101 rfl ?_
  have h50 := d50 x hx
  have h51 := d51
  unfold U at *
  have e0 : IntKind.u64.wrap x = x := by rw [IntKind.wrap_u64]; omega
  have e1 : IntKind.u64.wrap y = y := by rw [IntKind.wrap_u64]; omega
  have e2 : IntKind.u64.wrap (x + y) = x + y := by rw [IntKind.wrap_u64]; omega
  have e3 : (x + y).tmod 4294967296 = (x + y) % 4294967296 := Int.tmod_eq_emod_of_nonneg (by omega)
  have e4 : IntKind.u64.wrap ((x + y) % 4294967296) = (x + y) % 4294967296 := by rw [IntKind.wrap_u64]; omega
  have e5 : IntKind.u32.wrap ((x + y) % 4294967296) = (x + y) % 4294967296 := by rw [IntKind.wrap_u32]; omega
  repeat' (first
    | ((with_reducible first | apply Wo_u | apply Wo_n | apply ex2 | apply W_sc | apply W_c | apply Wd_u | apply Wd_n | apply ex4 | apply EndQ_ret | apply EndQ_normal); (conv => lhs; simp -implicitDefEqProofs [*]) <;> exact rfl)
    | (with_reducible first | apply Wo_nil | apply W_ss | apply W_srl | apply W_rl | apply W_sblock | apply W_block | apply W_sskip | apply W_skip | apply W_sret | apply W_ret | apply W_sexit | apply W_exit | apply thenW_n | apply thenW_r | apply thenW_e | apply inB_n | apply inB_r | apply inB_e)
    | ((with_reducible apply Wo_gt); (exact rfl); ((conv => lhs; simp -implicitDefEqProofs [*]) <;> exact rfl); (conv => lhs; simp -implicitDefEqProofs [*]) <;> exact rfl)
    | ((with_reducible apply Wo_gf); (exact rfl); ((conv => lhs; simp -implicitDefEqProofs [*]) <;> exact rfl); (exact rfl))
    | ((with_reducible apply Wo_gx); (exact rfl); ((conv => lhs; simp -implicitDefEqProofs [*]) <;> exact rfl))
    | ((with_reducible apply Wo_gsT); (exact rfl); ((conv => lhs; simp -implicitDefEqProofs [*]) <;> exact rfl))
    | ((with_reducible apply Wo_gsF); (exact rfl); ((conv => lhs; simp -implicitDefEqProofs [*]) <;> exact rfl))
    | ((with_reducible apply Wd_gsT); (exact rfl); ((conv => lhs; simp -implicitDefEqProofs [*]) <;> exact rfl))
    | ((with_reducible apply Wd_gsF); (exact rfl); ((conv => lhs; simp -implicitDefEqProofs [*]) <;> exact rfl))
    | ((with_reducible first | apply W_srdl | apply W_rdl); kernel_rfl)
    | ((with_reducible apply Wd_nil); exact rfl)
    | ((with_reducible apply inB_o); rotate_left; exact rfl)
    | (intro h h'; try simp [*, -h] at h'))
  all_goals rfl
set_option maxHeartbeats 4000000 in
theorem d47_13 (x : Int) (hx : U x) : (lim Tryz.prog E47 X47).dat 101 [iv 13, uv x, uv 8] = some [uv (x / 256), iv 0] := by
  refine fnW Tryz.func101 rfl rfl bodyOk_101 rfl rtys_101 rfl ?_
  have h50 := d50 x hx
  have h51 := d51
  unfold U at *
  have e0 : IntKind.u64.wrap x = x := by rw [IntKind.wrap_u64]; omega
  repeat' (first
    | ((with_reducible first | apply Wo_u | apply Wo_n | apply ex2 | apply W_sc | apply W_c | apply Wd_u | apply Wd_n | apply ex4 | apply EndQ_ret | apply EndQ_normal); (conv => lhs; simp -implicitDefEqProofs [*]) <;> exact rfl)
    | (with_reducible first | apply Wo_nil | apply W_ss | apply W_srl | apply W_rl | apply W_sblock | apply W_block | apply W_sskip | apply W_skip | apply W_sret | apply W_ret | apply W_sexit | apply W_exit | apply thenW_n | apply thenW_r | apply thenW_e | apply inB_n | apply inB_r | apply inB_e)
    | ((with_reducible apply Wo_gt); (exact rfl); ((conv => lhs; simp -implicitDefEqProofs [*]) <;> exact rfl); (conv => lhs; simp -implicitDefEqProofs [*]) <;> exact rfl)
    | ((with_reducible apply Wo_gf); (exact rfl); ((conv => lhs; simp -implicitDefEqProofs [*]) <;> exact rfl); (exact rfl))
    | ((with_reducible apply Wo_gx); (exact rfl); ((conv => lhs; simp -implicitDefEqProofs [*]) <;> exact rfl))
    | ((with_reducible apply Wo_gsT); (exact rfl); ((conv => lhs; simp -implicitDefEqProofs [*]) <;> exact rfl))
    | ((with_reducible apply Wo_gsF); (exact rfl); ((conv => lhs; simp -implicitDefEqProofs [*]) <;> exact rfl))
    | ((with_reducible apply Wd_gsT); (exact rfl); ((conv => lhs; simp -implicitDefEqProofs [*]) <;> exact rfl))
    | ((with_reducible apply Wd_gsF); (exact rfl); ((conv => lhs; simp -implicitDefEqProofs [*]) <;> exact rfl))
    | ((with_reducible first | apply W_srdl | apply W_rdl); kernel_rfl)
    | ((with_reducible apply Wd_nil); exact rfl)
    | ((with_reducible apply inB_o); rotate_left; exact rfl)
    | (intro h h'; try simp [*, -h] at h'))
  all_goals rfl
set_option maxHeartbeats 4000000 in
theorem d47_14 (x y : Int) (hx : U x) (hy : U y) : (lim Tryz.prog E47 X47).dat 101 [iv 14, uv x, uv y] = some [uv (if x < y then 1 else 0), iv 0] := by
  refine fnW Tryz.func101 rfl rfl bodyOk_101 rfl rtys_101 rfl ?_
  have h50 := d50 x hx
  have h51 := d51
  unfold U at *
  have e0 : IntKind.u64.wrap x = x := by rw [IntKind.wrap_u64]; omega
  have e1 : IntKind.u64.wrap y = y := by rw [IntKind.wrap_u64]; omega
  repeat' (first
    | ((with_reducible first | apply Wo_u | apply Wo_n | apply ex2 | apply W_sc | apply W_c | apply Wd_u | apply Wd_n | apply ex4 | apply EndQ_ret | apply EndQ_normal); (conv => lhs; simp -implicitDefEqProofs [*]) <;> exact rfl)
    | (with_reducible first | apply Wo_nil | apply W_ss | apply W_srl | apply W_rl | apply W_sblock | apply W_block | apply W_sskip | apply W_skip | apply W_sret | apply W_ret | apply W_sexit | apply W_exit | apply thenW_n | apply thenW_r | apply thenW_e | apply inB_n | apply inB_r | apply inB_e)
    | ((with_reducible apply Wo_gt); (exact rfl); ((conv => lhs; simp -implicitDefEqProofs [*]) <;> exact rfl); (conv => lhs; simp -implicitDefEqProofs [*]) <;> exact rfl)
    | ((with_reducible apply Wo_gf); (exact rfl); ((conv => lhs; simp -implicitDefEqProofs [*]) <;> exact rfl); (exact rfl))
    | ((with_reducible apply Wo_gx); (exact rfl); ((conv => lhs; simp -implicitDefEqProofs [*]) <;> exact rfl))
    | ((with_reducible apply Wo_gsT); (exact rfl); ((conv => lhs; simp -implicitDefEqProofs [*]) <;> exact rfl))
    | ((with_reducible apply Wo_gsF); (exact rfl); ((conv => lhs; simp -implicitDefEqProofs [*]) <;> exact rfl))
    | ((with_reducible apply Wd_gsT); (exact rfl); ((conv => lhs; simp -implicitDefEqProofs [*]) <;> exact rfl))
    | ((with_reducible apply Wd_gsF); (exact rfl); ((conv => lhs; simp -implicitDefEqProofs [*]) <;> exact rfl))
    | ((with_reducible first | apply W_srdl | apply W_rdl); kernel_rfl)
    | ((with_reducible apply Wd_nil); exact rfl)
    | ((with_reducible apply inB_o); rotate_left; exact rfl)
    | (intro h h'; try simp [*, -h] at h'))
  all_goals simp [*]
set_option maxHeartbeats 4000000 in
theorem d45 (l : List Int) (b : Nat) (hl : l.length ≤ 1048576) (hb : b < l.length) : (lim Tryz.prog E47 X47).dat 99 [.sl false 1 (rowW l), uv b, iv 0] = some [uv l[b], bv true] := by
  refine fnW Tryz.func99 rfl rfl bodyOk_99 rfl rtys_99 rfl ?_
  have e0 : IntKind.u32.wrap (b : Int) = b := by rw [IntKind.wrap_u32]; omega
  have e1 : IntKind.u64.wrap (b : Int) = b := by rw [IntKind.wrap_u64]; omega
  have e2 : IntKind.u64.wrap (l.length : Int) = l.length := by rw [IntKind.wrap_u64]; omega
  have e3 : ¬ (l.length : Int) ≤ b := by omega
  have wz : IntKind.u32.wrap 0 = 0 := by decide +kernel
  repeat' (first
    | ((with_reducible first | apply Wo_u | apply Wo_n | apply ex2 | apply W_sc | apply W_c | apply Wd_u | apply Wd_n | apply ex4 | apply EndQ_ret | apply EndQ_normal); (conv => lhs; simp -implicitDefEqProofs [*]) <;> exact rfl)
    | (with_reducible first | apply Wo_nil | apply W_ss | apply W_srl | apply W_rl | apply W_sblock | apply W_block | apply W_sskip | apply W_skip | apply W_sret | apply W_ret | apply W_sexit | apply W_exit | apply thenW_n | apply thenW_r | apply thenW_e | apply inB_n | apply inB_r | apply inB_e)
    | ((with_reducible apply Wo_gt); (exact rfl); ((conv => lhs; simp -implicitDefEqProofs [*]) <;> exact rfl); (conv => lhs; simp -implicitDefEqProofs [*]) <;> exact rfl)
    | ((with_reducible apply Wo_gf); (exact rfl); ((conv => lhs; simp -implicitDefEqProofs [*]) <;> exact rfl); (exact rfl))
    | ((with_reducible apply Wo_gx); (exact rfl); ((conv => lhs; simp -implicitDefEqProofs [*]) <;> exact rfl))
    | ((with_reducible apply Wo_gsT); (exact rfl); ((conv => lhs; simp -implicitDefEqProofs [*]) <;> exact rfl))
    | ((with_reducible apply Wo_gsF); (exact rfl); ((conv => lhs; simp -implicitDefEqProofs [*]) <;> exact rfl))
    | ((with_reducible apply Wd_gsT); (exact rfl); ((conv => lhs; simp -implicitDefEqProofs [*]) <;> exact rfl))
    | ((with_reducible apply Wd_gsF); (exact rfl); ((conv => lhs; simp -implicitDefEqProofs [*]) <;> exact rfl))
    | ((with_reducible first | apply W_srdl | apply W_rdl); kernel_rfl)
    | ((with_reducible apply Wd_nil); exact rfl)
    | ((with_reducible apply inB_o); rotate_left; exact rfl)
    | (intro h h'; try simp [*, -h] at h'))
  all_goals simp [*]
end Go.Proofs.YtdokejnokhicbaaGreatDoor

namespace Go.Proofs.YtdokejnokhicbaaGreatDoor
open Go Go.Ab
set_option linter.unusedSimpArgs false
set_option linter.unusedVariables false
/-- The parts of an instruction. -/
def partsOf (op : Int) : ByteArray :=
  if op = 1 ∨ op = 2 ∨ op = 19 ∨ op = 20 ∨ op = 21 ∨ op = 25 then ⟨#[97, 99]⟩
  else if op = 3 then ⟨#[97, 98]⟩
  else if op = 16 ∨ op = 17 ∨ op = 27 then ⟨#[97, 98, 99]⟩
  else if op = 18 then ⟨#[99]⟩
  else if op = 22 ∨ op = 23 ∨ op = 24 then ⟨#[97]⟩
  else if op = 26 then ⟨#[]⟩
  else if op = 4 ∨ op = 5 ∨ op = 6 ∨ op = 7 ∨ op = 8 ∨ op = 9 ∨ op = 10 ∨ op = 11 ∨ op = 12 ∨ op = 13 ∨ op = 14 ∨ op = 15 then ⟨#[97, 98, 114]⟩
  else ⟨#[63]⟩
theorem d52_0 : (lim Tryz.prog E47 X47).dat 109 [iv 0] = some [.sc (.string ⟨#[63]⟩)] := lim_dat.2 ⟨100, by kernel_rfl⟩
theorem d52_1 : (lim Tryz.prog E47 X47).dat 109 [iv 1] = some [.sc (.string ⟨#[97, 99]⟩)] := lim_dat.2 ⟨100, by kernel_rfl⟩
theorem d52_2 : (lim Tryz.prog E47 X47).dat 109 [iv 2] = some [.sc (.string ⟨#[97, 99]⟩)] := lim_dat.2 ⟨100, by kernel_rfl⟩
theorem d52_3 : (lim Tryz.prog E47 X47).dat 109 [iv 3] = some [.sc (.string ⟨#[97, 98]⟩)] := lim_dat.2 ⟨100, by kernel_rfl⟩
theorem d52_4 : (lim Tryz.prog E47 X47).dat 109 [iv 4] = some [.sc (.string ⟨#[97, 98, 114]⟩)] := lim_dat.2 ⟨100, by kernel_rfl⟩
theorem d52_5 : (lim Tryz.prog E47 X47).dat 109 [iv 5] = some [.sc (.string ⟨#[97, 98, 114]⟩)] := lim_dat.2 ⟨100, by kernel_rfl⟩
theorem d52_6 : (lim Tryz.prog E47 X47).dat 109 [iv 6] = some [.sc (.string ⟨#[97, 98, 114]⟩)] := lim_dat.2 ⟨100, by kernel_rfl⟩
theorem d52_7 : (lim Tryz.prog E47 X47).dat 109 [iv 7] = some [.sc (.string ⟨#[97, 98, 114]⟩)] := lim_dat.2 ⟨100, by kernel_rfl⟩
theorem d52_8 : (lim Tryz.prog E47 X47).dat 109 [iv 8] = some [.sc (.string ⟨#[97, 98, 114]⟩)] := lim_dat.2 ⟨100, by kernel_rfl⟩
theorem d52_9 : (lim Tryz.prog E47 X47).dat 109 [iv 9] = some [.sc (.string ⟨#[97, 98, 114]⟩)] := lim_dat.2 ⟨100, by kernel_rfl⟩
theorem d52_10 : (lim Tryz.prog E47 X47).dat 109 [iv 10] = some [.sc (.string ⟨#[97, 98, 114]⟩)] := lim_dat.2 ⟨100, by kernel_rfl⟩
theorem d52_11 : (lim Tryz.prog E47 X47).dat 109 [iv 11] = some [.sc (.string ⟨#[97, 98, 114]⟩)] := lim_dat.2 ⟨100, by kernel_rfl⟩
theorem d52_12 : (lim Tryz.prog E47 X47).dat 109 [iv 12] = some [.sc (.string ⟨#[97, 98, 114]⟩)] := lim_dat.2 ⟨100, by kernel_rfl⟩
theorem d52_13 : (lim Tryz.prog E47 X47).dat 109 [iv 13] = some [.sc (.string ⟨#[97, 98, 114]⟩)] := lim_dat.2 ⟨100, by kernel_rfl⟩
theorem d52_14 : (lim Tryz.prog E47 X47).dat 109 [iv 14] = some [.sc (.string ⟨#[97, 98, 114]⟩)] := lim_dat.2 ⟨100, by kernel_rfl⟩
theorem d52_15 : (lim Tryz.prog E47 X47).dat 109 [iv 15] = some [.sc (.string ⟨#[97, 98, 114]⟩)] := lim_dat.2 ⟨100, by kernel_rfl⟩
theorem d52_16 : (lim Tryz.prog E47 X47).dat 109 [iv 16] = some [.sc (.string ⟨#[97, 98, 99]⟩)] := lim_dat.2 ⟨100, by kernel_rfl⟩
theorem d52_17 : (lim Tryz.prog E47 X47).dat 109 [iv 17] = some [.sc (.string ⟨#[97, 98, 99]⟩)] := lim_dat.2 ⟨100, by kernel_rfl⟩
theorem d52_18 : (lim Tryz.prog E47 X47).dat 109 [iv 18] = some [.sc (.string ⟨#[99]⟩)] := lim_dat.2 ⟨100, by kernel_rfl⟩
theorem d52_19 : (lim Tryz.prog E47 X47).dat 109 [iv 19] = some [.sc (.string ⟨#[97, 99]⟩)] := lim_dat.2 ⟨100, by kernel_rfl⟩
theorem d52_20 : (lim Tryz.prog E47 X47).dat 109 [iv 20] = some [.sc (.string ⟨#[97, 99]⟩)] := lim_dat.2 ⟨100, by kernel_rfl⟩
theorem d52_21 : (lim Tryz.prog E47 X47).dat 109 [iv 21] = some [.sc (.string ⟨#[97, 99]⟩)] := lim_dat.2 ⟨100, by kernel_rfl⟩
theorem d52_22 : (lim Tryz.prog E47 X47).dat 109 [iv 22] = some [.sc (.string ⟨#[97]⟩)] := lim_dat.2 ⟨100, by kernel_rfl⟩
theorem d52_23 : (lim Tryz.prog E47 X47).dat 109 [iv 23] = some [.sc (.string ⟨#[97]⟩)] := lim_dat.2 ⟨100, by kernel_rfl⟩
theorem d52_24 : (lim Tryz.prog E47 X47).dat 109 [iv 24] = some [.sc (.string ⟨#[97]⟩)] := lim_dat.2 ⟨100, by kernel_rfl⟩
theorem d52_25 : (lim Tryz.prog E47 X47).dat 109 [iv 25] = some [.sc (.string ⟨#[97, 99]⟩)] := lim_dat.2 ⟨100, by kernel_rfl⟩
theorem d52_26 : (lim Tryz.prog E47 X47).dat 109 [iv 26] = some [.sc (.string ⟨#[]⟩)] := lim_dat.2 ⟨100, by kernel_rfl⟩
theorem d52_27 : (lim Tryz.prog E47 X47).dat 109 [iv 27] = some [.sc (.string ⟨#[97, 98, 99]⟩)] := lim_dat.2 ⟨100, by kernel_rfl⟩
set_option maxHeartbeats 4000000 in
theorem d52_x (op : Int) (h : 27 < op) : (lim Tryz.prog E47 X47).dat 109 [iv op] = some [.sc (.string ⟨#[63]⟩)] := by
  refine fnW Tryz.func109 rfl rfl bodyOk_109 rfl rtys_109 rfl ?_
  have n0 : ¬ op ≤ 15 := by omega
  have n1 : ¬ op = 1 := by omega
  have n2 : ¬ op = 2 := by omega
  have n3 : ¬ op = 3 := by omega
  have n4 : ¬ op = 4 := by omega
  have n5 : ¬ op = 5 := by omega
  have n6 : ¬ op = 6 := by omega
  have n7 : ¬ op = 7 := by omega
  have n8 : ¬ op = 8 := by omega
  have n9 : ¬ op = 9 := by omega
  have n10 : ¬ op = 10 := by omega
  have n11 : ¬ op = 11 := by omega
  have n12 : ¬ op = 12 := by omega
  have n13 : ¬ op = 13 := by omega
  have n14 : ¬ op = 14 := by omega
  have n15 : ¬ op = 15 := by omega
  have n16 : ¬ op = 16 := by omega
  have n17 : ¬ op = 17 := by omega
  have n18 : ¬ op = 18 := by omega
  have n19 : ¬ op = 19 := by omega
  have n20 : ¬ op = 20 := by omega
  have n21 : ¬ op = 21 := by omega
  have n22 : ¬ op = 22 := by omega
  have n23 : ¬ op = 23 := by omega
  have n24 : ¬ op = 24 := by omega
  have n25 : ¬ op = 25 := by omega
  have n26 : ¬ op = 26 := by omega
  have n27 : ¬ op = 27 := by omega
  repeat' (first
    | ((with_reducible first | apply Wo_u | apply Wo_n | apply ex2 | apply W_sc | apply W_c | apply Wd_u | apply Wd_n | apply ex4 | apply EndQ_ret | apply EndQ_normal); (conv => lhs; simp -implicitDefEqProofs [*]) <;> exact rfl)
    | (with_reducible first | apply Wo_nil | apply W_ss | apply W_srl | apply W_rl | apply W_sblock | apply W_block | apply W_sskip | apply W_skip | apply W_sret | apply W_ret | apply W_sexit | apply W_exit | apply thenW_n | apply thenW_r | apply thenW_e | apply inB_n | apply inB_r | apply inB_e)
    | ((with_reducible apply Wo_gt); (exact rfl); ((conv => lhs; simp -implicitDefEqProofs [*]) <;> exact rfl); (conv => lhs; simp -implicitDefEqProofs [*]) <;> exact rfl)
    | ((with_reducible apply Wo_gf); (exact rfl); ((conv => lhs; simp -implicitDefEqProofs [*]) <;> exact rfl); (exact rfl))
    | ((with_reducible apply Wo_gx); (exact rfl); ((conv => lhs; simp -implicitDefEqProofs [*]) <;> exact rfl))
    | ((with_reducible apply Wo_gsT); (exact rfl); ((conv => lhs; simp -implicitDefEqProofs [*]) <;> exact rfl))
    | ((with_reducible apply Wo_gsF); (exact rfl); ((conv => lhs; simp -implicitDefEqProofs [*]) <;> exact rfl))
    | ((with_reducible apply Wd_gsT); (exact rfl); ((conv => lhs; simp -implicitDefEqProofs [*]) <;> exact rfl))
    | ((with_reducible apply Wd_gsF); (exact rfl); ((conv => lhs; simp -implicitDefEqProofs [*]) <;> exact rfl))
    | ((with_reducible first | apply W_srdl | apply W_rdl); kernel_rfl)
    | ((with_reducible apply Wd_nil); exact rfl)
    | ((with_reducible apply inB_o); rotate_left; exact rfl)
    | (intro h h'; try simp [*, -h] at h'))
  all_goals rfl
theorem d52 (op : Int) (h : 0 ≤ op) : (lim Tryz.prog E47 X47).dat 109 [iv op] = some [.sc (.string (partsOf op))] := by
  by_cases hx : 27 < op
  · rw [d52_x op hx]
    unfold partsOf
    rw [if_neg (by omega), if_neg (by omega), if_neg (by omega), if_neg (by omega), if_neg (by omega), if_neg (by omega), if_neg (by omega)]
  have : op = 0 ∨ op = 1 ∨ op = 2 ∨ op = 3 ∨ op = 4 ∨ op = 5 ∨ op = 6 ∨ op = 7 ∨ op = 8 ∨ op = 9 ∨ op = 10 ∨ op = 11 ∨ op = 12 ∨ op = 13 ∨ op = 14 ∨ op = 15 ∨ op = 16 ∨ op = 17 ∨ op = 18 ∨ op = 19 ∨ op = 20 ∨ op = 21 ∨ op = 22 ∨ op = 23 ∨ op = 24 ∨ op = 25 ∨ op = 26 ∨ op = 27 := by omega
  rcases this with rfl | rfl | rfl | rfl | rfl | rfl | rfl | rfl | rfl | rfl | rfl | rfl | rfl | rfl | rfl | rfl | rfl | rfl | rfl | rfl | rfl | rfl | rfl | rfl | rfl | rfl | rfl | rfl
  · rw [d52_0]; rfl
  · rw [d52_1]; rfl
  · rw [d52_2]; rfl
  · rw [d52_3]; rfl
  · rw [d52_4]; rfl
  · rw [d52_5]; rfl
  · rw [d52_6]; rfl
  · rw [d52_7]; rfl
  · rw [d52_8]; rfl
  · rw [d52_9]; rfl
  · rw [d52_10]; rfl
  · rw [d52_11]; rfl
  · rw [d52_12]; rfl
  · rw [d52_13]; rfl
  · rw [d52_14]; rfl
  · rw [d52_15]; rfl
  · rw [d52_16]; rfl
  · rw [d52_17]; rfl
  · rw [d52_18]; rfl
  · rw [d52_19]; rfl
  · rw [d52_20]; rfl
  · rw [d52_21]; rfl
  · rw [d52_22]; rfl
  · rw [d52_23]; rfl
  · rw [d52_24]; rfl
  · rw [d52_25]; rfl
  · rw [d52_26]; rfl
  · rw [d52_27]; rfl
theorem d53_ac_a : (lim Tryz.prog E47 X47).dat 110 [.sc (.string ⟨#[97, 99]⟩), .sc (.int .u8 97)] = some [bv true] := lim_dat.2 ⟨100, by kernel_rfl⟩
theorem d53_ac_b : (lim Tryz.prog E47 X47).dat 110 [.sc (.string ⟨#[97, 99]⟩), .sc (.int .u8 98)] = some [bv false] := lim_dat.2 ⟨100, by kernel_rfl⟩
theorem d53_ac_c : (lim Tryz.prog E47 X47).dat 110 [.sc (.string ⟨#[97, 99]⟩), .sc (.int .u8 99)] = some [bv true] := lim_dat.2 ⟨100, by kernel_rfl⟩
theorem d53_ac_r : (lim Tryz.prog E47 X47).dat 110 [.sc (.string ⟨#[97, 99]⟩), .sc (.int .u8 114)] = some [bv false] := lim_dat.2 ⟨100, by kernel_rfl⟩
theorem d53_ab_a : (lim Tryz.prog E47 X47).dat 110 [.sc (.string ⟨#[97, 98]⟩), .sc (.int .u8 97)] = some [bv true] := lim_dat.2 ⟨100, by kernel_rfl⟩
theorem d53_ab_b : (lim Tryz.prog E47 X47).dat 110 [.sc (.string ⟨#[97, 98]⟩), .sc (.int .u8 98)] = some [bv true] := lim_dat.2 ⟨100, by kernel_rfl⟩
theorem d53_ab_c : (lim Tryz.prog E47 X47).dat 110 [.sc (.string ⟨#[97, 98]⟩), .sc (.int .u8 99)] = some [bv false] := lim_dat.2 ⟨100, by kernel_rfl⟩
theorem d53_ab_r : (lim Tryz.prog E47 X47).dat 110 [.sc (.string ⟨#[97, 98]⟩), .sc (.int .u8 114)] = some [bv false] := lim_dat.2 ⟨100, by kernel_rfl⟩
theorem d53_abc_a : (lim Tryz.prog E47 X47).dat 110 [.sc (.string ⟨#[97, 98, 99]⟩), .sc (.int .u8 97)] = some [bv true] := lim_dat.2 ⟨100, by kernel_rfl⟩
theorem d53_abc_b : (lim Tryz.prog E47 X47).dat 110 [.sc (.string ⟨#[97, 98, 99]⟩), .sc (.int .u8 98)] = some [bv true] := lim_dat.2 ⟨100, by kernel_rfl⟩
theorem d53_abc_c : (lim Tryz.prog E47 X47).dat 110 [.sc (.string ⟨#[97, 98, 99]⟩), .sc (.int .u8 99)] = some [bv true] := lim_dat.2 ⟨100, by kernel_rfl⟩
theorem d53_abc_r : (lim Tryz.prog E47 X47).dat 110 [.sc (.string ⟨#[97, 98, 99]⟩), .sc (.int .u8 114)] = some [bv false] := lim_dat.2 ⟨100, by kernel_rfl⟩
theorem d53_c_a : (lim Tryz.prog E47 X47).dat 110 [.sc (.string ⟨#[99]⟩), .sc (.int .u8 97)] = some [bv false] := lim_dat.2 ⟨100, by kernel_rfl⟩
theorem d53_c_b : (lim Tryz.prog E47 X47).dat 110 [.sc (.string ⟨#[99]⟩), .sc (.int .u8 98)] = some [bv false] := lim_dat.2 ⟨100, by kernel_rfl⟩
theorem d53_c_c : (lim Tryz.prog E47 X47).dat 110 [.sc (.string ⟨#[99]⟩), .sc (.int .u8 99)] = some [bv true] := lim_dat.2 ⟨100, by kernel_rfl⟩
theorem d53_c_r : (lim Tryz.prog E47 X47).dat 110 [.sc (.string ⟨#[99]⟩), .sc (.int .u8 114)] = some [bv false] := lim_dat.2 ⟨100, by kernel_rfl⟩
theorem d53_a_a : (lim Tryz.prog E47 X47).dat 110 [.sc (.string ⟨#[97]⟩), .sc (.int .u8 97)] = some [bv true] := lim_dat.2 ⟨100, by kernel_rfl⟩
theorem d53_a_b : (lim Tryz.prog E47 X47).dat 110 [.sc (.string ⟨#[97]⟩), .sc (.int .u8 98)] = some [bv false] := lim_dat.2 ⟨100, by kernel_rfl⟩
theorem d53_a_c : (lim Tryz.prog E47 X47).dat 110 [.sc (.string ⟨#[97]⟩), .sc (.int .u8 99)] = some [bv false] := lim_dat.2 ⟨100, by kernel_rfl⟩
theorem d53_a_r : (lim Tryz.prog E47 X47).dat 110 [.sc (.string ⟨#[97]⟩), .sc (.int .u8 114)] = some [bv false] := lim_dat.2 ⟨100, by kernel_rfl⟩
theorem d53__a : (lim Tryz.prog E47 X47).dat 110 [.sc (.string ⟨#[]⟩), .sc (.int .u8 97)] = some [bv false] := lim_dat.2 ⟨100, by kernel_rfl⟩
theorem d53__b : (lim Tryz.prog E47 X47).dat 110 [.sc (.string ⟨#[]⟩), .sc (.int .u8 98)] = some [bv false] := lim_dat.2 ⟨100, by kernel_rfl⟩
theorem d53__c : (lim Tryz.prog E47 X47).dat 110 [.sc (.string ⟨#[]⟩), .sc (.int .u8 99)] = some [bv false] := lim_dat.2 ⟨100, by kernel_rfl⟩
theorem d53__r : (lim Tryz.prog E47 X47).dat 110 [.sc (.string ⟨#[]⟩), .sc (.int .u8 114)] = some [bv false] := lim_dat.2 ⟨100, by kernel_rfl⟩
theorem d53_abr_a : (lim Tryz.prog E47 X47).dat 110 [.sc (.string ⟨#[97, 98, 114]⟩), .sc (.int .u8 97)] = some [bv true] := lim_dat.2 ⟨100, by kernel_rfl⟩
theorem d53_abr_b : (lim Tryz.prog E47 X47).dat 110 [.sc (.string ⟨#[97, 98, 114]⟩), .sc (.int .u8 98)] = some [bv true] := lim_dat.2 ⟨100, by kernel_rfl⟩
theorem d53_abr_c : (lim Tryz.prog E47 X47).dat 110 [.sc (.string ⟨#[97, 98, 114]⟩), .sc (.int .u8 99)] = some [bv false] := lim_dat.2 ⟨100, by kernel_rfl⟩
theorem d53_abr_r : (lim Tryz.prog E47 X47).dat 110 [.sc (.string ⟨#[97, 98, 114]⟩), .sc (.int .u8 114)] = some [bv true] := lim_dat.2 ⟨100, by kernel_rfl⟩
theorem d53_x_a : (lim Tryz.prog E47 X47).dat 110 [.sc (.string ⟨#[63]⟩), .sc (.int .u8 97)] = some [bv false] := lim_dat.2 ⟨100, by kernel_rfl⟩
theorem d53_x_b : (lim Tryz.prog E47 X47).dat 110 [.sc (.string ⟨#[63]⟩), .sc (.int .u8 98)] = some [bv false] := lim_dat.2 ⟨100, by kernel_rfl⟩
theorem d53_x_c : (lim Tryz.prog E47 X47).dat 110 [.sc (.string ⟨#[63]⟩), .sc (.int .u8 99)] = some [bv false] := lim_dat.2 ⟨100, by kernel_rfl⟩
theorem d53_x_r : (lim Tryz.prog E47 X47).dat 110 [.sc (.string ⟨#[63]⟩), .sc (.int .u8 114)] = some [bv false] := lim_dat.2 ⟨100, by kernel_rfl⟩
set_option maxHeartbeats 1000000 in
theorem d54 (h : Bool) (x m : Int)  : (lim Tryz.prog E47 X47).dat 111 [bv h, iv x, iv m] = some [bv (if h then decide (0 ≤ x) && decide (x ≤ m) else decide (x = 0))] := by
  refine fnW Tryz.func111 rfl rfl bodyOk_111 rfl rtys_111 rfl ?_
  cases h
  all_goals by_cases h1 : x = 0
  all_goals by_cases h2 : 0 ≤ x
  all_goals by_cases h3 : x ≤ m
  all_goals
    repeat' (first
      | ((with_reducible first | apply Wo_u | apply Wo_n | apply ex2 | apply W_sc | apply W_c | apply Wd_u | apply Wd_n | apply ex4 | apply EndQ_ret | apply EndQ_normal); (conv => lhs; simp -implicitDefEqProofs [*]) <;> exact rfl)
      | (with_reducible first | apply Wo_nil | apply W_ss | apply W_srl | apply W_rl | apply W_sblock | apply W_block | apply W_sskip | apply W_skip | apply W_sret | apply W_ret | apply W_sexit | apply W_exit | apply thenW_n | apply thenW_r | apply thenW_e | apply inB_n | apply inB_r | apply inB_e)
      | ((with_reducible apply Wo_gt); (exact rfl); ((conv => lhs; simp -implicitDefEqProofs [*]) <;> exact rfl); (conv => lhs; simp -implicitDefEqProofs [*]) <;> exact rfl)
      | ((with_reducible apply Wo_gf); (exact rfl); ((conv => lhs; simp -implicitDefEqProofs [*]) <;> exact rfl); (exact rfl))
      | ((with_reducible apply Wo_gx); (exact rfl); ((conv => lhs; simp -implicitDefEqProofs [*]) <;> exact rfl))
      | ((with_reducible apply Wo_gsT); (exact rfl); ((conv => lhs; simp -implicitDefEqProofs [*]) <;> exact rfl))
      | ((with_reducible apply Wo_gsF); (exact rfl); ((conv => lhs; simp -implicitDefEqProofs [*]) <;> exact rfl))
      | ((with_reducible apply Wd_gsT); (exact rfl); ((conv => lhs; simp -implicitDefEqProofs [*]) <;> exact rfl))
      | ((with_reducible apply Wd_gsF); (exact rfl); ((conv => lhs; simp -implicitDefEqProofs [*]) <;> exact rfl))
      | ((with_reducible first | apply W_srdl | apply W_rdl); kernel_rfl)
      | ((with_reducible apply Wd_nil); exact rfl)
      | ((with_reducible apply inB_o); rotate_left; exact rfl)
      | (intro h h'; try simp [*, -h] at h'))
  all_goals simp [*]
end Go.Proofs.YtdokejnokhicbaaGreatDoor

namespace Go.Proofs.YtdokejnokhicbaaGreatDoor
open Go Go.Ab
set_option linter.unusedSimpArgs false
set_option linter.unusedVariables false
section
variable {P : Program} {E : Cfg} {k : Nat} {call : Orc} {all : Array Oper} {os : List Oper} {fr : Nat → AV} {hp : Hp} {Q : AS → Prop} {d d' j : Nat} {op : Op} {ty : TypeId} {pos : String} {aft : Array Edge} {b : Bool} {fs : List Foot}
theorem Wd_gx {us : List Value} (hd : (all[j]?).bind (·.dst) = some d') (hc : fr d' = .sc (.tuple ⟨us⟩)) (r : Wd P E k call all os ⟨setd fr (some d) (.sc undef), hp⟩ (⟨[], []⟩ :: fs) Q) : Wd P E k call all (⟨some d, op, ty, pos, aft, some (j, b)⟩ :: os) ⟨fr, hp⟩ fs Q := by
  obtain ⟨st', fs', h1, h2⟩ := r
  exact ⟨st', fs', by simp only [runDraw, stepF, guardA, hd, hc]; exact h1, h2⟩
end
def wi (h : Bool) (x m : Int) : Bool := if h then decide (0 ≤ x) && decide (x ≤ m) else decide (x = 0)
def hasB (P : ByteArray) (c : UInt8) : Bool := P.data.toList.contains c
def rightI (i : Ins) : Bool := decide (partsOf i.op ≠ ⟨#[63]⟩) && wi (hasB (partsOf i.op) 97) i.a 15 && wi (hasB (partsOf i.op) 98) i.b 15 && wi (hasB (partsOf i.op) 99 || hasB (partsOf i.op) 114) i.c (if hasB (partsOf i.op) 114 then 15 else 65535)
set_option maxRecDepth 20000 in
set_option maxHeartbeats 8000000 in
theorem d48x (i : Ins) (P : ByteArray) (ra rb rc rr nq : Bool) (h52 : (lim Tryz.prog E47 X47).dat 109 [iv i.op] = some [.sc (.string P)]) (hq : decide (P = ⟨#[63]⟩) = !nq) (h53a : (lim Tryz.prog E47 X47).dat 110 [.sc (.string P), .sc (.int .u8 97)] = some [bv ra]) (h53b : (lim Tryz.prog E47 X47).dat 110 [.sc (.string P), .sc (.int .u8 98)] = some [bv rb]) (h53c : (lim Tryz.prog E47 X47).dat 110 [.sc (.string P), .sc (.int .u8 99)] = some [bv rc]) (h53r : (lim Tryz.prog E47 X47).dat 110 [.sc (.string P), .sc (.int .u8 114)] = some [bv rr]) : (lim Tryz.prog E47 X47).dat 104 [.agg i.row] = some [bv (nq && wi ra i.a 15 && wi rb i.b 15 && wi (rc || rr) i.c (if rr then 15 else 65535))] := by
  refine fnW Tryz.func104 rfl rfl bodyOk_104 rfl rtys_104 rfl ?_
  have h54a := d54 ra i.a 15
  have h54b := d54 rb i.b 15
  have h54c := d54 (rc || rr) i.c (if rr then 15 else 65535)
  simp only [← wi.eq_def] at h54a h54b h54c
  obtain ⟨op, a, b, c⟩ := i
  simp only [Ins.row] at *
  generalize wi ra a 15 = xa at *
  generalize wi rb b 15 = xb at *
  generalize wi (rc || rr) c (if rr then 15 else 65535) = xc at *
  cases nq
  · have hP : P = ⟨#[63]⟩ := by simpa using hq
    subst hP
    clear hq
    cases rr <;> cases rc
    all_goals simp only [Bool.not_true, Bool.not_false, Bool.or_true, Bool.or_false, if_true, if_false, Bool.false_eq_true] at *
    all_goals
      repeat' (first
        | ((with_reducible apply Wo_u); (conv => lhs; simp -implicitDefEqProofs [*]) <;> exact rfl)
        | ((with_reducible apply Wo_n); (conv => lhs; simp -implicitDefEqProofs [*]) <;> exact rfl)
        | (with_reducible apply Wo_nil)
        | ((with_reducible apply Wo_gt); (exact rfl); ((conv => lhs; simp -implicitDefEqProofs [*]) <;> exact rfl); (conv => lhs; simp -implicitDefEqProofs [*]) <;> exact rfl)
        | ((with_reducible apply Wo_gf); (exact rfl); ((conv => lhs; simp -implicitDefEqProofs [*]) <;> exact rfl); (exact rfl))
        | ((with_reducible apply Wo_gx); (exact rfl); ((conv => lhs; simp -implicitDefEqProofs [*]) <;> exact rfl))
        | ((with_reducible apply Wo_gsT); (exact rfl); ((conv => lhs; simp -implicitDefEqProofs [*]) <;> exact rfl))
        | ((with_reducible apply Wo_gsF); (exact rfl); ((conv => lhs; simp -implicitDefEqProofs [*]) <;> exact rfl))
        | ((with_reducible apply ex2); (conv => lhs; simp -implicitDefEqProofs [*]) <;> exact rfl)
        | (with_reducible apply W_ss) | (with_reducible apply W_srl) | (with_reducible apply W_rl)
        | ((with_reducible apply W_sc); (conv => lhs; simp -implicitDefEqProofs [*]) <;> exact rfl)
        | ((with_reducible apply W_c); (conv => lhs; simp -implicitDefEqProofs [*]) <;> exact rfl)
        | ((with_reducible apply W_srdl); kernel_rfl) | ((with_reducible apply W_rdl); kernel_rfl)
        | ((with_reducible apply Wd_u); (conv => lhs; simp -implicitDefEqProofs [*]) <;> exact rfl)
        | ((with_reducible apply Wd_n); (conv => lhs; simp -implicitDefEqProofs [*]) <;> exact rfl)
        | ((with_reducible apply Wd_nil); kernel_rfl)
        | ((with_reducible apply Wd_gsT); (exact rfl); ((conv => lhs; simp -implicitDefEqProofs [*]) <;> exact rfl))
        | ((with_reducible apply Wd_gsF); (exact rfl); ((conv => lhs; simp -implicitDefEqProofs [*]) <;> exact rfl))
        | ((with_reducible apply ex4); (conv => lhs; simp -implicitDefEqProofs [*]) <;> exact rfl)
        | (with_reducible apply W_sblock) | (with_reducible apply W_block) | (with_reducible apply W_sskip) | (with_reducible apply W_skip) | (with_reducible apply W_sret) | (with_reducible apply W_ret) | (with_reducible apply W_sexit) | (with_reducible apply W_exit)
        | (with_reducible apply thenW_n) | (with_reducible apply thenW_r) | (with_reducible apply thenW_e) | (with_reducible apply inB_n) | (with_reducible apply inB_r) | (with_reducible apply inB_e) | ((with_reducible apply inB_o); rotate_left; exact rfl)
        | ((with_reducible apply EndQ_ret); (conv => lhs; simp -implicitDefEqProofs [*]) <;> exact rfl) | ((with_reducible apply EndQ_normal); (conv => lhs; simp -implicitDefEqProofs [*]) <;> exact rfl)
        | (intro h h'; try simp [*, -h] at h')
        | ((with_reducible apply Wd_gx); (exact rfl); ((conv => lhs; simp -implicitDefEqProofs [*]) <;> exact rfl)))
    all_goals simp [*]
  have hP : ¬ P = ⟨#[63]⟩ := by simpa using hq
  clear hq
  cases rr <;> cases rc
  all_goals simp only [Bool.not_true, Bool.not_false, Bool.or_true, Bool.or_false, if_true, if_false, Bool.false_eq_true] at *
  all_goals
    repeat' (first
      | ((with_reducible apply Wo_u); (conv => lhs; simp -implicitDefEqProofs [*]) <;> exact rfl)
      | ((with_reducible apply Wo_n); (conv => lhs; simp -implicitDefEqProofs [*]) <;> exact rfl)
      | (with_reducible apply Wo_nil)
      | ((with_reducible apply Wo_gt); (exact rfl); ((conv => lhs; simp -implicitDefEqProofs [*]) <;> exact rfl); (conv => lhs; simp -implicitDefEqProofs [*]) <;> exact rfl)
      | ((with_reducible apply Wo_gf); (exact rfl); ((conv => lhs; simp -implicitDefEqProofs [*]) <;> exact rfl); (exact rfl))
      | ((with_reducible apply Wo_gx); (exact rfl); ((conv => lhs; simp -implicitDefEqProofs [*]) <;> exact rfl))
      | ((with_reducible apply Wo_gsT); (exact rfl); ((conv => lhs; simp -implicitDefEqProofs [*]) <;> exact rfl))
      | ((with_reducible apply Wo_gsF); (exact rfl); ((conv => lhs; simp -implicitDefEqProofs [*]) <;> exact rfl))
      | ((with_reducible apply ex2); (conv => lhs; simp -implicitDefEqProofs [*]) <;> exact rfl)
      | (with_reducible apply W_ss) | (with_reducible apply W_srl) | (with_reducible apply W_rl)
      | ((with_reducible apply W_sc); (conv => lhs; simp -implicitDefEqProofs [*]) <;> exact rfl)
      | ((with_reducible apply W_c); (conv => lhs; simp -implicitDefEqProofs [*]) <;> exact rfl)
      | ((with_reducible apply W_srdl); kernel_rfl) | ((with_reducible apply W_rdl); kernel_rfl)
      | ((with_reducible apply Wd_u); (conv => lhs; simp -implicitDefEqProofs [*]) <;> exact rfl)
      | ((with_reducible apply Wd_n); (conv => lhs; simp -implicitDefEqProofs [*]) <;> exact rfl)
      | ((with_reducible apply Wd_nil); kernel_rfl)
      | ((with_reducible apply Wd_gsT); (exact rfl); ((conv => lhs; simp -implicitDefEqProofs [*]) <;> exact rfl))
      | ((with_reducible apply Wd_gsF); (exact rfl); ((conv => lhs; simp -implicitDefEqProofs [*]) <;> exact rfl))
      | ((with_reducible apply ex4); (conv => lhs; simp -implicitDefEqProofs [*]) <;> exact rfl)
      | (with_reducible apply W_sblock) | (with_reducible apply W_block) | (with_reducible apply W_sskip) | (with_reducible apply W_skip) | (with_reducible apply W_sret) | (with_reducible apply W_ret) | (with_reducible apply W_sexit) | (with_reducible apply W_exit)
      | (with_reducible apply thenW_n) | (with_reducible apply thenW_r) | (with_reducible apply thenW_e) | (with_reducible apply inB_n) | (with_reducible apply inB_r) | (with_reducible apply inB_e) | ((with_reducible apply inB_o); rotate_left; exact rfl)
      | ((with_reducible apply EndQ_ret); (conv => lhs; simp -implicitDefEqProofs [*]) <;> exact rfl) | ((with_reducible apply EndQ_normal); (conv => lhs; simp -implicitDefEqProofs [*]) <;> exact rfl)
      | (intro h h'; try simp [*, -h] at h')
      | ((with_reducible apply Wd_gx); (exact rfl); ((conv => lhs; simp -implicitDefEqProofs [*]) <;> exact rfl)))
  all_goals simp [*]
end Go.Proofs.YtdokejnokhicbaaGreatDoor

namespace Go.Proofs.YtdokejnokhicbaaGreatDoor
open Go Go.Ab
set_option linter.unusedSimpArgs false
set_option linter.unusedVariables false
theorem parts_one (op : Int) : partsOf op = ⟨#[97, 99]⟩ ∨ partsOf op = ⟨#[97, 98]⟩ ∨ partsOf op = ⟨#[97, 98, 99]⟩ ∨ partsOf op = ⟨#[99]⟩ ∨ partsOf op = ⟨#[97]⟩ ∨ partsOf op = ⟨#[]⟩ ∨ partsOf op = ⟨#[97, 98, 114]⟩ ∨ partsOf op = ⟨#[63]⟩ := by
  unfold partsOf
  repeat' split
  all_goals simp
theorem d48 (i : Ins) (h : 0 ≤ i.op) : (lim Tryz.prog E47 X47).dat 104 [.agg i.row] = some [bv (rightI i)] := by
  have h52 := d52 i.op h
  unfold rightI
  rcases parts_one i.op with e | e | e | e | e | e | e | e
  · rw [e] at h52 ⊢
    rw [d48x i ⟨#[97, 99]⟩ true false true false true h52 (by decide) d53_ac_a d53_ac_b d53_ac_c d53_ac_r]
    rfl
  · rw [e] at h52 ⊢
    rw [d48x i ⟨#[97, 98]⟩ true true false false true h52 (by decide) d53_ab_a d53_ab_b d53_ab_c d53_ab_r]
    rfl
  · rw [e] at h52 ⊢
    rw [d48x i ⟨#[97, 98, 99]⟩ true true true false true h52 (by decide) d53_abc_a d53_abc_b d53_abc_c d53_abc_r]
    rfl
  · rw [e] at h52 ⊢
    rw [d48x i ⟨#[99]⟩ false false true false true h52 (by decide) d53_c_a d53_c_b d53_c_c d53_c_r]
    rfl
  · rw [e] at h52 ⊢
    rw [d48x i ⟨#[97]⟩ true false false false true h52 (by decide) d53_a_a d53_a_b d53_a_c d53_a_r]
    rfl
  · rw [e] at h52 ⊢
    rw [d48x i ⟨#[]⟩ false false false false true h52 (by decide) d53__a d53__b d53__c d53__r]
    rfl
  · rw [e] at h52 ⊢
    rw [d48x i ⟨#[97, 98, 114]⟩ true true false true true h52 (by decide) d53_abr_a d53_abr_b d53_abr_c d53_abr_r]
    rfl
  · rw [e] at h52 ⊢
    rw [d48x i ⟨#[63]⟩ false false false false false h52 (by decide) d53_x_a d53_x_b d53_x_c d53_x_r]
    rfl
/-- A word's instruction. -/
def insW (w : Int) : Ins := ⟨w / 16777216, w / 1048576 % 16, w / 65536 % 16, w % 65536⟩
def decR (w : Int) : List AV := if rightI (insW w) then (insW w).row else [iv 0, iv 0, iv 0, iv 0]
def okR (w : Int) : Bool := rightI (insW w)
set_option maxHeartbeats 4000000 in
theorem d43 (w : Int) (hU : U w) : (lim Tryz.prog E47 X47).dat 97 [uv w] = some [.agg (decR w), iv (if okR w then 0 else 7)] := by
  refine fnW Tryz.func97 rfl rfl bodyOk_97 rfl rtys_97 rfl ?_
  unfold U at hU
  have h48 := d48 (insW w) (by show 0 ≤ w / 16777216; omega)
  have w1 : IntKind.u32.wrap (w.tdiv 16777216) = w / 16777216 := by rw [Int.tdiv_eq_ediv_of_nonneg hU.1, IntKind.wrap_u32]; omega
  have w2 : IntKind.u32.wrap (w.tdiv 1048576) = w / 1048576 := by rw [Int.tdiv_eq_ediv_of_nonneg hU.1, IntKind.wrap_u32]; omega
  have w3 : IntKind.u32.wrap (w.tdiv 65536) = w / 65536 := by rw [Int.tdiv_eq_ediv_of_nonneg hU.1, IntKind.wrap_u32]; omega
  have t2 : (w / 1048576).tmod 16 = w / 1048576 % 16 := Int.tmod_eq_emod_of_nonneg (by omega)
  have t3 : (w / 65536).tmod 16 = w / 65536 % 16 := Int.tmod_eq_emod_of_nonneg (by omega)
  have t4 : w.tmod 65536 = w % 65536 := Int.tmod_eq_emod_of_nonneg (by omega)
  have i1 : IntKind.i64.wrap (w / 16777216) = w / 16777216 := wrap64 (by omega) (by omega)
  have i2 : IntKind.i64.wrap (w / 1048576 % 16) = w / 1048576 % 16 := wrap64 (by omega) (by omega)
  have i3 : IntKind.i64.wrap (w / 65536 % 16) = w / 65536 % 16 := wrap64 (by omega) (by omega)
  have i4 : IntKind.i64.wrap (w % 65536) = w % 65536 := wrap64 (by omega) (by omega)
  have r2 : IntKind.u32.wrap (w / 1048576 % 16) = w / 1048576 % 16 := by rw [IntKind.wrap_u32]; omega
  have r3 : IntKind.u32.wrap (w / 65536 % 16) = w / 65536 % 16 := by rw [IntKind.wrap_u32]; omega
  have r4 : IntKind.u32.wrap (w % 65536) = w % 65536 := by rw [IntKind.wrap_u32]; omega
  unfold decR okR
  simp only [Ins.row] at h48 ⊢
  generalize rightI (insW w) = r at h48
  simp only [insW] at h48 ⊢
  clear hU
  cases r
  all_goals
    repeat' (first
      | ((with_reducible first | apply Wo_u | apply Wo_n | apply ex2 | apply W_sc | apply W_c | apply Wd_u | apply Wd_n | apply ex4 | apply EndQ_ret | apply EndQ_normal); (conv => lhs; simp -implicitDefEqProofs [*]) <;> exact rfl)
      | (with_reducible first | apply Wo_nil | apply W_ss | apply W_srl | apply W_rl | apply W_sblock | apply W_block | apply W_sskip | apply W_skip | apply W_sret | apply W_ret | apply W_sexit | apply W_exit | apply thenW_n | apply thenW_r | apply thenW_e | apply inB_n | apply inB_r | apply inB_e)
      | ((with_reducible apply Wo_gt); (exact rfl); ((conv => lhs; simp -implicitDefEqProofs [*]) <;> exact rfl); (conv => lhs; simp -implicitDefEqProofs [*]) <;> exact rfl)
      | ((with_reducible apply Wo_gf); (exact rfl); ((conv => lhs; simp -implicitDefEqProofs [*]) <;> exact rfl); (exact rfl))
      | ((with_reducible apply Wo_gx); (exact rfl); ((conv => lhs; simp -implicitDefEqProofs [*]) <;> exact rfl))
      | ((with_reducible apply Wo_gsT); (exact rfl); ((conv => lhs; simp -implicitDefEqProofs [*]) <;> exact rfl))
      | ((with_reducible apply Wo_gsF); (exact rfl); ((conv => lhs; simp -implicitDefEqProofs [*]) <;> exact rfl))
      | ((with_reducible apply Wd_gsT); (exact rfl); ((conv => lhs; simp -implicitDefEqProofs [*]) <;> exact rfl))
      | ((with_reducible apply Wd_gsF); (exact rfl); ((conv => lhs; simp -implicitDefEqProofs [*]) <;> exact rfl))
      | ((with_reducible first | apply W_srdl | apply W_rdl); kernel_rfl)
      | ((with_reducible apply Wd_nil); exact rfl)
      | ((with_reducible apply inB_o); rotate_left; exact rfl)
      | (intro h h'; try simp [*, -h] at h'))
  all_goals rfl
abbrev rowD (l : List Int) : List (List AV) := l.map decR
abbrev rowK (l : List Int) : List (List AV) := l.map fun w => [bv (okR w)]
end Go.Proofs.YtdokejnokhicbaaGreatDoor
