/- Law 47: the machine, set and jump, walked. -/
import Derived.Test.YtdokejnokhicbaaGreatDoorM8
namespace Go.Proofs.YtdokejnokhicbaaGreatDoor
open Go Go.Ab
set_option linter.unusedSimpArgs false
set_option linter.unusedVariables false
attribute [-simp] Prog.bind getCs putCs
attribute [local simp ↓] run_bind
attribute [local simp ↓] runF_bind
attribute [local simp] run_getCsN runF_getCsN facetsC putCs_one run_putCsN
/-- A mirror's machine: its place, its registers, its steps, how it ended, what it put out. -/
structure MS where
  pc : Nat
  R : Nat → Int
  steps : Nat
  en : Int
  out : List Int
def setR (R : Nat → Int) (a : Nat) (x : Int) : Nat → Int := fun j => if j = a then x else R j
/-- The machine's box. -/
def bxc (s : MS) (g n : Nat) (ws : List Int) (inp : ByteArray) : List AV := [iv s.pc, uv (s.R 0), uv (s.R 1), uv (s.R 2), uv (s.R 3), uv (s.R 4), uv (s.R 5), uv (s.R 6), uv (s.R 7), uv (s.R 8), uv (s.R 9), uv (s.R 10), uv (s.R 11), uv (s.R 12), uv (s.R 13), uv (s.R 14), uv (s.R 15), .own ⟨0, 13, 18⟩ 2 0, iv 0, .sc (.string ⟨#[]⟩), iv s.steps, iv s.en, .own ⟨0, 13, 23⟩ g s.out.length, .own ⟨0, 13, 24⟩ 2 n, .own ⟨0, 13, 25⟩ 2 n, .sl false 1 (rowW ws), .sc (.string inp), .own ⟨0, 13, 28⟩ 2 n]
set_option maxHeartbeats 4000000 in
theorem h44_1 (x : Int) (s : MS) (g n : Nat) (ws : List Int) (inp : ByteArray) (hpc : s.pc ≤ 1000000) (d : Nat) (hp1 : Hp) (hx : hp1 ⟨0, 13, 0⟩ = .box 1 (bxc s g n ws inp) false) : (lim Tryz.prog E47 X47).hpc 1 d 98 [.ptr ⟨0, 13, 0⟩ 1 0, iv 1, uv x] hp1 = some (.tup [], upd hp1 ⟨0, 13, 0⟩ (.box 1 (bxc { s with R := setR s.R 1 x, pc := s.pc + 1 } g n ws inp) false)) := by
  have key : ∃ v hp', (lim Tryz.prog E47 X47).hpc 1 d 98 [.ptr ⟨0, 13, 0⟩ 1 0, iv 1, uv x] hp1 = some (v, hp') ∧ (v = .tup [] ∧ hp' = upd hp1 ⟨0, 13, 0⟩ (.box 1 (bxc { s with R := setR s.R 1 x, pc := s.pc + 1 } g n ws inp) false)) := by
    refine lim_hpcW (R := fun v hp' => v = .tup [] ∧ hp' = upd hp1 ⟨0, 13, 0⟩ (.box 1 (bxc { s with R := setR s.R 1 x, pc := s.pc + 1 } g n ws inp) false)) Tryz.func98 rfl rfl bodyOk_98 rfl rfl ?_
    have hw := wrapN (k := s.pc) (by omega)
    simp only [bxc] at hx
    repeat' (first
      | ((with_reducible first | apply Wo_u | apply Wo_n | apply ex2 | apply W_sc | apply W_c | apply Wd_u | apply Wd_n | apply ex4 | apply EndQ_ret | apply EndQ_normal); (conv => lhs; simp -implicitDefEqProofs [*]) <;> exact rfl)
      | (with_reducible first | apply Wo_nil | apply W_ss | apply W_srl | apply W_rl | apply W_sblock | apply W_block | apply W_sskip | apply W_skip | apply W_sret | apply W_ret | apply W_sexit | apply W_exit | apply thenW_n | apply thenW_r | apply thenW_e | apply inB_n | apply inB_r | apply inB_e)
      | ((with_reducible apply Wo_gt); (exact rfl); ((conv => lhs; simp -implicitDefEqProofs [*]) <;> exact rfl); (conv => lhs; simp -implicitDefEqProofs [*]) <;> exact rfl)
      | ((with_reducible apply Wo_gf); (exact rfl); ((conv => lhs; simp -implicitDefEqProofs [*]) <;> exact rfl); (exact rfl))
      | ((with_reducible apply Wo_gx); (exact rfl); ((conv => lhs; simp -implicitDefEqProofs [*]) <;> exact rfl))
      | ((with_reducible apply Wo_gsT); (exact rfl); ((conv => lhs; simp -implicitDefEqProofs [*]) <;> exact rfl))
      | ((with_reducible apply Wo_gsF); (exact rfl); ((conv => lhs; simp -implicitDefEqProofs [*]) <;> exact rfl))
      | ((with_reducible apply Wd_gsT); (exact rfl); ((conv => lhs; simp -implicitDefEqProofs [*]) <;> exact rfl))
      | ((with_reducible apply Wd_gsF); (exact rfl); ((conv => lhs; simp -implicitDefEqProofs [*]) <;> exact rfl))
      | ((with_reducible first | apply W_srdl | apply W_rdl); kernel_rfl)
      | ((with_reducible apply Wd_nil); exact rfl)
      | ((with_reducible apply inB_o); rotate_left; exact rfl)
      | (intro h h'; try simp [*, -h] at h'))
    exact ⟨by simp, _, _, rfl, rfl, by simp [bxc, setR]⟩
  obtain ⟨v, hp', h1, rfl, rfl⟩ := key
  exact h1
set_option maxHeartbeats 4000000 in
theorem h44_2 (x : Int) (s : MS) (g n : Nat) (ws : List Int) (inp : ByteArray) (hpc : s.pc ≤ 1000000) (d : Nat) (hp1 : Hp) (hx : hp1 ⟨0, 13, 0⟩ = .box 1 (bxc s g n ws inp) false) : (lim Tryz.prog E47 X47).hpc 1 d 98 [.ptr ⟨0, 13, 0⟩ 1 0, iv 2, uv x] hp1 = some (.tup [], upd hp1 ⟨0, 13, 0⟩ (.box 1 (bxc { s with R := setR s.R 2 x, pc := s.pc + 1 } g n ws inp) false)) := by
  have key : ∃ v hp', (lim Tryz.prog E47 X47).hpc 1 d 98 [.ptr ⟨0, 13, 0⟩ 1 0, iv 2, uv x] hp1 = some (v, hp') ∧ (v = .tup [] ∧ hp' = upd hp1 ⟨0, 13, 0⟩ (.box 1 (bxc { s with R := setR s.R 2 x, pc := s.pc + 1 } g n ws inp) false)) := by
    refine lim_hpcW (R := fun v hp' => v = .tup [] ∧ hp' = upd hp1 ⟨0, 13, 0⟩ (.box 1 (bxc { s with R := setR s.R 2 x, pc := s.pc + 1 } g n ws inp) false)) Tryz.func98 rfl rfl bodyOk_98 rfl rfl ?_
    have hw := wrapN (k := s.pc) (by omega)
    simp only [bxc] at hx
    repeat' (first
      | ((with_reducible first | apply Wo_u | apply Wo_n | apply ex2 | apply W_sc | apply W_c | apply Wd_u | apply Wd_n | apply ex4 | apply EndQ_ret | apply EndQ_normal); (conv => lhs; simp -implicitDefEqProofs [*]) <;> exact rfl)
      | (with_reducible first | apply Wo_nil | apply W_ss | apply W_srl | apply W_rl | apply W_sblock | apply W_block | apply W_sskip | apply W_skip | apply W_sret | apply W_ret | apply W_sexit | apply W_exit | apply thenW_n | apply thenW_r | apply thenW_e | apply inB_n | apply inB_r | apply inB_e)
      | ((with_reducible apply Wo_gt); (exact rfl); ((conv => lhs; simp -implicitDefEqProofs [*]) <;> exact rfl); (conv => lhs; simp -implicitDefEqProofs [*]) <;> exact rfl)
      | ((with_reducible apply Wo_gf); (exact rfl); ((conv => lhs; simp -implicitDefEqProofs [*]) <;> exact rfl); (exact rfl))
      | ((with_reducible apply Wo_gx); (exact rfl); ((conv => lhs; simp -implicitDefEqProofs [*]) <;> exact rfl))
      | ((with_reducible apply Wo_gsT); (exact rfl); ((conv => lhs; simp -implicitDefEqProofs [*]) <;> exact rfl))
      | ((with_reducible apply Wo_gsF); (exact rfl); ((conv => lhs; simp -implicitDefEqProofs [*]) <;> exact rfl))
      | ((with_reducible apply Wd_gsT); (exact rfl); ((conv => lhs; simp -implicitDefEqProofs [*]) <;> exact rfl))
      | ((with_reducible apply Wd_gsF); (exact rfl); ((conv => lhs; simp -implicitDefEqProofs [*]) <;> exact rfl))
      | ((with_reducible first | apply W_srdl | apply W_rdl); kernel_rfl)
      | ((with_reducible apply Wd_nil); exact rfl)
      | ((with_reducible apply inB_o); rotate_left; exact rfl)
      | (intro h h'; try simp [*, -h] at h'))
    exact ⟨by simp, _, _, rfl, rfl, by simp [bxc, setR]⟩
  obtain ⟨v, hp', h1, rfl, rfl⟩ := key
  exact h1
set_option maxHeartbeats 4000000 in
theorem h44_3 (x : Int) (s : MS) (g n : Nat) (ws : List Int) (inp : ByteArray) (hpc : s.pc ≤ 1000000) (d : Nat) (hp1 : Hp) (hx : hp1 ⟨0, 13, 0⟩ = .box 1 (bxc s g n ws inp) false) : (lim Tryz.prog E47 X47).hpc 1 d 98 [.ptr ⟨0, 13, 0⟩ 1 0, iv 3, uv x] hp1 = some (.tup [], upd hp1 ⟨0, 13, 0⟩ (.box 1 (bxc { s with R := setR s.R 3 x, pc := s.pc + 1 } g n ws inp) false)) := by
  have key : ∃ v hp', (lim Tryz.prog E47 X47).hpc 1 d 98 [.ptr ⟨0, 13, 0⟩ 1 0, iv 3, uv x] hp1 = some (v, hp') ∧ (v = .tup [] ∧ hp' = upd hp1 ⟨0, 13, 0⟩ (.box 1 (bxc { s with R := setR s.R 3 x, pc := s.pc + 1 } g n ws inp) false)) := by
    refine lim_hpcW (R := fun v hp' => v = .tup [] ∧ hp' = upd hp1 ⟨0, 13, 0⟩ (.box 1 (bxc { s with R := setR s.R 3 x, pc := s.pc + 1 } g n ws inp) false)) Tryz.func98 rfl rfl bodyOk_98 rfl rfl ?_
    have hw := wrapN (k := s.pc) (by omega)
    simp only [bxc] at hx
    repeat' (first
      | ((with_reducible first | apply Wo_u | apply Wo_n | apply ex2 | apply W_sc | apply W_c | apply Wd_u | apply Wd_n | apply ex4 | apply EndQ_ret | apply EndQ_normal); (conv => lhs; simp -implicitDefEqProofs [*]) <;> exact rfl)
      | (with_reducible first | apply Wo_nil | apply W_ss | apply W_srl | apply W_rl | apply W_sblock | apply W_block | apply W_sskip | apply W_skip | apply W_sret | apply W_ret | apply W_sexit | apply W_exit | apply thenW_n | apply thenW_r | apply thenW_e | apply inB_n | apply inB_r | apply inB_e)
      | ((with_reducible apply Wo_gt); (exact rfl); ((conv => lhs; simp -implicitDefEqProofs [*]) <;> exact rfl); (conv => lhs; simp -implicitDefEqProofs [*]) <;> exact rfl)
      | ((with_reducible apply Wo_gf); (exact rfl); ((conv => lhs; simp -implicitDefEqProofs [*]) <;> exact rfl); (exact rfl))
      | ((with_reducible apply Wo_gx); (exact rfl); ((conv => lhs; simp -implicitDefEqProofs [*]) <;> exact rfl))
      | ((with_reducible apply Wo_gsT); (exact rfl); ((conv => lhs; simp -implicitDefEqProofs [*]) <;> exact rfl))
      | ((with_reducible apply Wo_gsF); (exact rfl); ((conv => lhs; simp -implicitDefEqProofs [*]) <;> exact rfl))
      | ((with_reducible apply Wd_gsT); (exact rfl); ((conv => lhs; simp -implicitDefEqProofs [*]) <;> exact rfl))
      | ((with_reducible apply Wd_gsF); (exact rfl); ((conv => lhs; simp -implicitDefEqProofs [*]) <;> exact rfl))
      | ((with_reducible first | apply W_srdl | apply W_rdl); kernel_rfl)
      | ((with_reducible apply Wd_nil); exact rfl)
      | ((with_reducible apply inB_o); rotate_left; exact rfl)
      | (intro h h'; try simp [*, -h] at h'))
    exact ⟨by simp, _, _, rfl, rfl, by simp [bxc, setR]⟩
  obtain ⟨v, hp', h1, rfl, rfl⟩ := key
  exact h1
set_option maxHeartbeats 4000000 in
theorem h44_4 (x : Int) (s : MS) (g n : Nat) (ws : List Int) (inp : ByteArray) (hpc : s.pc ≤ 1000000) (d : Nat) (hp1 : Hp) (hx : hp1 ⟨0, 13, 0⟩ = .box 1 (bxc s g n ws inp) false) : (lim Tryz.prog E47 X47).hpc 1 d 98 [.ptr ⟨0, 13, 0⟩ 1 0, iv 4, uv x] hp1 = some (.tup [], upd hp1 ⟨0, 13, 0⟩ (.box 1 (bxc { s with R := setR s.R 4 x, pc := s.pc + 1 } g n ws inp) false)) := by
  have key : ∃ v hp', (lim Tryz.prog E47 X47).hpc 1 d 98 [.ptr ⟨0, 13, 0⟩ 1 0, iv 4, uv x] hp1 = some (v, hp') ∧ (v = .tup [] ∧ hp' = upd hp1 ⟨0, 13, 0⟩ (.box 1 (bxc { s with R := setR s.R 4 x, pc := s.pc + 1 } g n ws inp) false)) := by
    refine lim_hpcW (R := fun v hp' => v = .tup [] ∧ hp' = upd hp1 ⟨0, 13, 0⟩ (.box 1 (bxc { s with R := setR s.R 4 x, pc := s.pc + 1 } g n ws inp) false)) Tryz.func98 rfl rfl bodyOk_98 rfl rfl ?_
    have hw := wrapN (k := s.pc) (by omega)
    simp only [bxc] at hx
    repeat' (first
      | ((with_reducible first | apply Wo_u | apply Wo_n | apply ex2 | apply W_sc | apply W_c | apply Wd_u | apply Wd_n | apply ex4 | apply EndQ_ret | apply EndQ_normal); (conv => lhs; simp -implicitDefEqProofs [*]) <;> exact rfl)
      | (with_reducible first | apply Wo_nil | apply W_ss | apply W_srl | apply W_rl | apply W_sblock | apply W_block | apply W_sskip | apply W_skip | apply W_sret | apply W_ret | apply W_sexit | apply W_exit | apply thenW_n | apply thenW_r | apply thenW_e | apply inB_n | apply inB_r | apply inB_e)
      | ((with_reducible apply Wo_gt); (exact rfl); ((conv => lhs; simp -implicitDefEqProofs [*]) <;> exact rfl); (conv => lhs; simp -implicitDefEqProofs [*]) <;> exact rfl)
      | ((with_reducible apply Wo_gf); (exact rfl); ((conv => lhs; simp -implicitDefEqProofs [*]) <;> exact rfl); (exact rfl))
      | ((with_reducible apply Wo_gx); (exact rfl); ((conv => lhs; simp -implicitDefEqProofs [*]) <;> exact rfl))
      | ((with_reducible apply Wo_gsT); (exact rfl); ((conv => lhs; simp -implicitDefEqProofs [*]) <;> exact rfl))
      | ((with_reducible apply Wo_gsF); (exact rfl); ((conv => lhs; simp -implicitDefEqProofs [*]) <;> exact rfl))
      | ((with_reducible apply Wd_gsT); (exact rfl); ((conv => lhs; simp -implicitDefEqProofs [*]) <;> exact rfl))
      | ((with_reducible apply Wd_gsF); (exact rfl); ((conv => lhs; simp -implicitDefEqProofs [*]) <;> exact rfl))
      | ((with_reducible first | apply W_srdl | apply W_rdl); kernel_rfl)
      | ((with_reducible apply Wd_nil); exact rfl)
      | ((with_reducible apply inB_o); rotate_left; exact rfl)
      | (intro h h'; try simp [*, -h] at h'))
    exact ⟨by simp, _, _, rfl, rfl, by simp [bxc, setR]⟩
  obtain ⟨v, hp', h1, rfl, rfl⟩ := key
  exact h1
set_option maxHeartbeats 4000000 in
theorem h44_5 (x : Int) (s : MS) (g n : Nat) (ws : List Int) (inp : ByteArray) (hpc : s.pc ≤ 1000000) (d : Nat) (hp1 : Hp) (hx : hp1 ⟨0, 13, 0⟩ = .box 1 (bxc s g n ws inp) false) : (lim Tryz.prog E47 X47).hpc 1 d 98 [.ptr ⟨0, 13, 0⟩ 1 0, iv 5, uv x] hp1 = some (.tup [], upd hp1 ⟨0, 13, 0⟩ (.box 1 (bxc { s with R := setR s.R 5 x, pc := s.pc + 1 } g n ws inp) false)) := by
  have key : ∃ v hp', (lim Tryz.prog E47 X47).hpc 1 d 98 [.ptr ⟨0, 13, 0⟩ 1 0, iv 5, uv x] hp1 = some (v, hp') ∧ (v = .tup [] ∧ hp' = upd hp1 ⟨0, 13, 0⟩ (.box 1 (bxc { s with R := setR s.R 5 x, pc := s.pc + 1 } g n ws inp) false)) := by
    refine lim_hpcW (R := fun v hp' => v = .tup [] ∧ hp' = upd hp1 ⟨0, 13, 0⟩ (.box 1 (bxc { s with R := setR s.R 5 x, pc := s.pc + 1 } g n ws inp) false)) Tryz.func98 rfl rfl bodyOk_98 rfl rfl ?_
    have hw := wrapN (k := s.pc) (by omega)
    simp only [bxc] at hx
    repeat' (first
      | ((with_reducible first | apply Wo_u | apply Wo_n | apply ex2 | apply W_sc | apply W_c | apply Wd_u | apply Wd_n | apply ex4 | apply EndQ_ret | apply EndQ_normal); (conv => lhs; simp -implicitDefEqProofs [*]) <;> exact rfl)
      | (with_reducible first | apply Wo_nil | apply W_ss | apply W_srl | apply W_rl | apply W_sblock | apply W_block | apply W_sskip | apply W_skip | apply W_sret | apply W_ret | apply W_sexit | apply W_exit | apply thenW_n | apply thenW_r | apply thenW_e | apply inB_n | apply inB_r | apply inB_e)
      | ((with_reducible apply Wo_gt); (exact rfl); ((conv => lhs; simp -implicitDefEqProofs [*]) <;> exact rfl); (conv => lhs; simp -implicitDefEqProofs [*]) <;> exact rfl)
      | ((with_reducible apply Wo_gf); (exact rfl); ((conv => lhs; simp -implicitDefEqProofs [*]) <;> exact rfl); (exact rfl))
      | ((with_reducible apply Wo_gx); (exact rfl); ((conv => lhs; simp -implicitDefEqProofs [*]) <;> exact rfl))
      | ((with_reducible apply Wo_gsT); (exact rfl); ((conv => lhs; simp -implicitDefEqProofs [*]) <;> exact rfl))
      | ((with_reducible apply Wo_gsF); (exact rfl); ((conv => lhs; simp -implicitDefEqProofs [*]) <;> exact rfl))
      | ((with_reducible apply Wd_gsT); (exact rfl); ((conv => lhs; simp -implicitDefEqProofs [*]) <;> exact rfl))
      | ((with_reducible apply Wd_gsF); (exact rfl); ((conv => lhs; simp -implicitDefEqProofs [*]) <;> exact rfl))
      | ((with_reducible first | apply W_srdl | apply W_rdl); kernel_rfl)
      | ((with_reducible apply Wd_nil); exact rfl)
      | ((with_reducible apply inB_o); rotate_left; exact rfl)
      | (intro h h'; try simp [*, -h] at h'))
    exact ⟨by simp, _, _, rfl, rfl, by simp [bxc, setR]⟩
  obtain ⟨v, hp', h1, rfl, rfl⟩ := key
  exact h1
set_option maxHeartbeats 4000000 in
theorem h44_7 (x : Int) (s : MS) (g n : Nat) (ws : List Int) (inp : ByteArray) (hpc : s.pc ≤ 1000000) (d : Nat) (hp1 : Hp) (hx : hp1 ⟨0, 13, 0⟩ = .box 1 (bxc s g n ws inp) false) : (lim Tryz.prog E47 X47).hpc 1 d 98 [.ptr ⟨0, 13, 0⟩ 1 0, iv 7, uv x] hp1 = some (.tup [], upd hp1 ⟨0, 13, 0⟩ (.box 1 (bxc { s with R := setR s.R 7 x, pc := s.pc + 1 } g n ws inp) false)) := by
  have key : ∃ v hp', (lim Tryz.prog E47 X47).hpc 1 d 98 [.ptr ⟨0, 13, 0⟩ 1 0, iv 7, uv x] hp1 = some (v, hp') ∧ (v = .tup [] ∧ hp' = upd hp1 ⟨0, 13, 0⟩ (.box 1 (bxc { s with R := setR s.R 7 x, pc := s.pc + 1 } g n ws inp) false)) := by
    refine lim_hpcW (R := fun v hp' => v = .tup [] ∧ hp' = upd hp1 ⟨0, 13, 0⟩ (.box 1 (bxc { s with R := setR s.R 7 x, pc := s.pc + 1 } g n ws inp) false)) Tryz.func98 rfl rfl bodyOk_98 rfl rfl ?_
    have hw := wrapN (k := s.pc) (by omega)
    simp only [bxc] at hx
    repeat' (first
      | ((with_reducible first | apply Wo_u | apply Wo_n | apply ex2 | apply W_sc | apply W_c | apply Wd_u | apply Wd_n | apply ex4 | apply EndQ_ret | apply EndQ_normal); (conv => lhs; simp -implicitDefEqProofs [*]) <;> exact rfl)
      | (with_reducible first | apply Wo_nil | apply W_ss | apply W_srl | apply W_rl | apply W_sblock | apply W_block | apply W_sskip | apply W_skip | apply W_sret | apply W_ret | apply W_sexit | apply W_exit | apply thenW_n | apply thenW_r | apply thenW_e | apply inB_n | apply inB_r | apply inB_e)
      | ((with_reducible apply Wo_gt); (exact rfl); ((conv => lhs; simp -implicitDefEqProofs [*]) <;> exact rfl); (conv => lhs; simp -implicitDefEqProofs [*]) <;> exact rfl)
      | ((with_reducible apply Wo_gf); (exact rfl); ((conv => lhs; simp -implicitDefEqProofs [*]) <;> exact rfl); (exact rfl))
      | ((with_reducible apply Wo_gx); (exact rfl); ((conv => lhs; simp -implicitDefEqProofs [*]) <;> exact rfl))
      | ((with_reducible apply Wo_gsT); (exact rfl); ((conv => lhs; simp -implicitDefEqProofs [*]) <;> exact rfl))
      | ((with_reducible apply Wo_gsF); (exact rfl); ((conv => lhs; simp -implicitDefEqProofs [*]) <;> exact rfl))
      | ((with_reducible apply Wd_gsT); (exact rfl); ((conv => lhs; simp -implicitDefEqProofs [*]) <;> exact rfl))
      | ((with_reducible apply Wd_gsF); (exact rfl); ((conv => lhs; simp -implicitDefEqProofs [*]) <;> exact rfl))
      | ((with_reducible first | apply W_srdl | apply W_rdl); kernel_rfl)
      | ((with_reducible apply Wd_nil); exact rfl)
      | ((with_reducible apply inB_o); rotate_left; exact rfl)
      | (intro h h'; try simp [*, -h] at h'))
    exact ⟨by simp, _, _, rfl, rfl, by simp [bxc, setR]⟩
  obtain ⟨v, hp', h1, rfl, rfl⟩ := key
  exact h1
set_option maxHeartbeats 4000000 in
theorem h44_8 (x : Int) (s : MS) (g n : Nat) (ws : List Int) (inp : ByteArray) (hpc : s.pc ≤ 1000000) (d : Nat) (hp1 : Hp) (hx : hp1 ⟨0, 13, 0⟩ = .box 1 (bxc s g n ws inp) false) : (lim Tryz.prog E47 X47).hpc 1 d 98 [.ptr ⟨0, 13, 0⟩ 1 0, iv 8, uv x] hp1 = some (.tup [], upd hp1 ⟨0, 13, 0⟩ (.box 1 (bxc { s with R := setR s.R 8 x, pc := s.pc + 1 } g n ws inp) false)) := by
  have key : ∃ v hp', (lim Tryz.prog E47 X47).hpc 1 d 98 [.ptr ⟨0, 13, 0⟩ 1 0, iv 8, uv x] hp1 = some (v, hp') ∧ (v = .tup [] ∧ hp' = upd hp1 ⟨0, 13, 0⟩ (.box 1 (bxc { s with R := setR s.R 8 x, pc := s.pc + 1 } g n ws inp) false)) := by
    refine lim_hpcW (R := fun v hp' => v = .tup [] ∧ hp' = upd hp1 ⟨0, 13, 0⟩ (.box 1 (bxc { s with R := setR s.R 8 x, pc := s.pc + 1 } g n ws inp) false)) Tryz.func98 rfl rfl bodyOk_98 rfl rfl ?_
    have hw := wrapN (k := s.pc) (by omega)
    simp only [bxc] at hx
    repeat' (first
      | ((with_reducible first | apply Wo_u | apply Wo_n | apply ex2 | apply W_sc | apply W_c | apply Wd_u | apply Wd_n | apply ex4 | apply EndQ_ret | apply EndQ_normal); (conv => lhs; simp -implicitDefEqProofs [*]) <;> exact rfl)
      | (with_reducible first | apply Wo_nil | apply W_ss | apply W_srl | apply W_rl | apply W_sblock | apply W_block | apply W_sskip | apply W_skip | apply W_sret | apply W_ret | apply W_sexit | apply W_exit | apply thenW_n | apply thenW_r | apply thenW_e | apply inB_n | apply inB_r | apply inB_e)
      | ((with_reducible apply Wo_gt); (exact rfl); ((conv => lhs; simp -implicitDefEqProofs [*]) <;> exact rfl); (conv => lhs; simp -implicitDefEqProofs [*]) <;> exact rfl)
      | ((with_reducible apply Wo_gf); (exact rfl); ((conv => lhs; simp -implicitDefEqProofs [*]) <;> exact rfl); (exact rfl))
      | ((with_reducible apply Wo_gx); (exact rfl); ((conv => lhs; simp -implicitDefEqProofs [*]) <;> exact rfl))
      | ((with_reducible apply Wo_gsT); (exact rfl); ((conv => lhs; simp -implicitDefEqProofs [*]) <;> exact rfl))
      | ((with_reducible apply Wo_gsF); (exact rfl); ((conv => lhs; simp -implicitDefEqProofs [*]) <;> exact rfl))
      | ((with_reducible apply Wd_gsT); (exact rfl); ((conv => lhs; simp -implicitDefEqProofs [*]) <;> exact rfl))
      | ((with_reducible apply Wd_gsF); (exact rfl); ((conv => lhs; simp -implicitDefEqProofs [*]) <;> exact rfl))
      | ((with_reducible first | apply W_srdl | apply W_rdl); kernel_rfl)
      | ((with_reducible apply Wd_nil); exact rfl)
      | ((with_reducible apply inB_o); rotate_left; exact rfl)
      | (intro h h'; try simp [*, -h] at h'))
    exact ⟨by simp, _, _, rfl, rfl, by simp [bxc, setR]⟩
  obtain ⟨v, hp', h1, rfl, rfl⟩ := key
  exact h1
set_option maxHeartbeats 4000000 in
theorem h46 (b : Bool) (to : Nat) (s : MS) (g n : Nat) (ws : List Int) (inp : ByteArray) (hpc : s.pc ≤ 1000000) (d : Nat) (hp1 : Hp) (hx : hp1 ⟨0, 13, 0⟩ = .box 1 (bxc s g n ws inp) false) : (lim Tryz.prog E47 X47).hpc 1 d 100 [.ptr ⟨0, 13, 0⟩ 1 0, bv b, iv to] hp1 = some (.tup [], upd hp1 ⟨0, 13, 0⟩ (.box 1 (bxc { s with pc := if b then to else s.pc + 1 } g n ws inp) false)) := by
  have key : ∃ v hp', (lim Tryz.prog E47 X47).hpc 1 d 100 [.ptr ⟨0, 13, 0⟩ 1 0, bv b, iv to] hp1 = some (v, hp') ∧ (v = .tup [] ∧ hp' = upd hp1 ⟨0, 13, 0⟩ (.box 1 (bxc { s with pc := if b then to else s.pc + 1 } g n ws inp) false)) := by
    refine lim_hpcW (R := fun v hp' => v = .tup [] ∧ hp' = upd hp1 ⟨0, 13, 0⟩ (.box 1 (bxc { s with pc := if b then to else s.pc + 1 } g n ws inp) false)) Tryz.func100 rfl rfl bodyOk_100 rfl rfl ?_
    have hw := wrapN (k := s.pc) (by omega)
    simp only [bxc] at hx
    cases b
    all_goals
      repeat' (first
        | ((with_reducible first | apply Wo_u | apply Wo_n | apply ex2 | apply W_sc | apply W_c | apply Wd_u | apply Wd_n | apply ex4 | apply EndQ_ret | apply EndQ_normal); (conv => lhs; simp -implicitDefEqProofs [*]) <;> exact rfl)
        | (with_reducible first | apply Wo_nil | apply W_ss | apply W_srl | apply W_rl | apply W_sblock | apply W_block | apply W_sskip | apply W_skip | apply W_sret | apply W_ret | apply W_sexit | apply W_exit | apply thenW_n | apply thenW_r | apply thenW_e | apply inB_n | apply inB_r | apply inB_e)
        | ((with_reducible apply Wo_gt); (exact rfl); ((conv => lhs; simp -implicitDefEqProofs [*]) <;> exact rfl); (conv => lhs; simp -implicitDefEqProofs [*]) <;> exact rfl)
        | ((with_reducible apply Wo_gf); (exact rfl); ((conv => lhs; simp -implicitDefEqProofs [*]) <;> exact rfl); (exact rfl))
        | ((with_reducible apply Wo_gx); (exact rfl); ((conv => lhs; simp -implicitDefEqProofs [*]) <;> exact rfl))
        | ((with_reducible apply Wo_gsT); (exact rfl); ((conv => lhs; simp -implicitDefEqProofs [*]) <;> exact rfl))
        | ((with_reducible apply Wo_gsF); (exact rfl); ((conv => lhs; simp -implicitDefEqProofs [*]) <;> exact rfl))
        | ((with_reducible apply Wd_gsT); (exact rfl); ((conv => lhs; simp -implicitDefEqProofs [*]) <;> exact rfl))
        | ((with_reducible apply Wd_gsF); (exact rfl); ((conv => lhs; simp -implicitDefEqProofs [*]) <;> exact rfl))
        | ((with_reducible first | apply W_srdl | apply W_rdl); kernel_rfl)
        | ((with_reducible apply Wd_nil); exact rfl)
        | ((with_reducible apply inB_o); rotate_left; exact rfl)
        | (intro h h'; try simp [*, -h] at h'))
    all_goals exact ⟨by simp, _, _, rfl, rfl, by simp [bxc, setR]⟩
  obtain ⟨v, hp', h1, rfl, rfl⟩ := key
  exact h1
end Go.Proofs.YtdokejnokhicbaaGreatDoor

namespace Go.Proofs.YtdokejnokhicbaaGreatDoor
open Go Go.Ab
set_option linter.unusedSimpArgs false
set_option linter.unusedVariables false
attribute [-simp] Prog.bind getCs putCs
attribute [local simp ↓] run_bind
attribute [local simp ↓] runF_bind
attribute [local simp] run_getCsN runF_getCsN facetsC putCs_one run_putCsN
def snocB (l : List Int) (x : Int) : List (List AV) := rowB (l ++ [x])
abbrev rowI (l : List Int) : List (List AV) := l.map fun x => [iv x]
theorem rowI_set (l : List Int) (i : Nat) (x : Int) : (rowI l).set i [iv x] = rowI (l.set i x) := by simp [List.map_set]
/-- What a step leaves behind. -/
def Post (s : MS) (g n : Nat) (ws : List Int) (inp : ByteArray) (cs : List Int) (hp hp' : Hp) : Prop :=
  hp' ⟨0, 13, 0⟩ = .box 1 (bxc s g n ws inp) false ∧ hp' ⟨0, 13, 23⟩ = .arr g 1 5 (rowB s.out) false ∧ hp' ⟨0, 13, 28⟩ = .arr 2 1 3 (rowI cs) false ∧ cs.length = n ∧ ∀ y : Nm, y.d = 0 → y ≠ ⟨0, 13, 0⟩ → y ≠ ⟨0, 13, 23⟩ → y ≠ ⟨0, 13, 28⟩ → hp' y = hp y
end Go.Proofs.YtdokejnokhicbaaGreatDoor
