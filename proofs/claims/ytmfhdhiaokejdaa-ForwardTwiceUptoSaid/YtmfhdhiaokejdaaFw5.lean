/- forward.forwarded, walked. Printed by a program (wip/tfw.py). -/
import Derived.Test.YtmfhdhiaokejdaaFx
namespace Go.Proofs.Ytmfhdhiaokejdaa
open Go Go.Ab
set_option linter.unusedSimpArgs false
set_option linter.unusedVariables false
theorem zeroTac_row : Tac.row ⟨0, 0, 0, 0, 0, 0, 0, 0⟩ = [iv 0, iv 0, iv 0, iv 0, iv 0, iv 0, iv 0, .sc (.int .u32 0)] := rfl
theorem insRows_zero (l0 : List Int) (ins : List Tac) : List.replicate ins.length [iv 0, iv 0, iv 0, iv 0, iv 0, iv 0, iv 0, .sc (.int .u32 0)] = (insAt l0 ins 0).map Tac.row := by
  rw [insAt_zero, List.map_replicate, zeroTac_row]
abbrev nI : Nm := ⟨0, 31, 0⟩
abbrev nB : Nm := ⟨0, 2, 0⟩
abbrev nR : Nm := ⟨0, 4, 0⟩
abbrev n9 : Nm := ⟨0, 9, 0⟩
/-- The instruction's registers are gone round. -/
structure R2 (fr : Nat → AV) (hp : Hp) (g9 : Nat) (l : List Int) (t : Tac) (s : AS) : Prop where
  f2 : s.fr 2 = fr 2
  f4 : s.fr 4 = fr 4
  f5 : s.fr 5 = fr 5
  f7 : s.fr 7 = fr 7
  f8 : s.fr 8 = fr 8
  f9 : s.fr 9 = fr 9
  f33 : s.fr 33 = fr 33
  f34 : s.fr 34 = fr 34
  f35 : s.fr 35 = fr 35
  k9 : s.hp n9 = .box g9 (Tac.row (fwdTac l t)) false
  ks : ∀ y, y ≠ n9 → s.hp y = hp y
set_option maxHeartbeats 4000000 in
theorem p22 {a0 a1 a2 a3 a4 a5 a6 a7 a8 a9 a10 piece : Code} (hcode : Try.f22.body = some (.seq a0 (.seq a1 (.seq a2 (.seq a3 (.seq (.seq a4 (.block 2 (.loop (.seq a5 (.seq a6 (.seq (.block 3 (.seq a7 (.seq piece a8))) a9)))))) a10)))))) (fr : Nat → AV) (hp : Hp) (g9 n : Nat) (l : List Int) (to : List (Option Nat)) (t : Tac)
    (f5 : fr 5 = .ptr nC 1 0) (f9 : fr 9 = .ptr n9 g9 0) (hcs : CS hp 1 2 2 l to) (k9 : hp n9 = .box g9 (Tac.row t) false) (hr : Rng l n) (ht : t.okR n) : W Try.prog E0 0 (lim Try.prog E0 X0) piece ⟨fr, hp⟩ (fun e s => e = .normal ∧ R2 fr hp g9 l t s) := by
  cases hcode
  obtain ⟨h1, h2, h3⟩ := hcs
  rw [hr.1] at h1
  simp only [Tac.row] at k9
  by_cases c1 : t.op = 2 ∨ t.op = 5 ∨ t.op = 6 ∨ t.op = 9
  · have ha := uses_a ht (by omega)
    have hat := atL_get hr ha.1 ha.2
    have hfw : fwdTac l t = { t with a := atL l t.a } := by unfold fwdTac; rw [if_pos c1]
    have hga : (rowsF l)[t.a.toNat]? = some [iv (atL l t.a)] := by rw [rowsF_get, hat.1]; rfl
    have ha0 : 0 ≤ t.a := ha.1
    have han : t.a.toNat < n := by omega
    clear hat ha
    rcases c1 with c1 | c1 | c1 | c1
    all_goals skip
    repeat' (first
      | ((with_reducible apply Wo_u); (conv => lhs; simp -implicitDefEqProofs [*]) <;> exact rfl)
      | ((with_reducible apply Wo_n); (conv => lhs; simp -implicitDefEqProofs [*]) <;> exact rfl)
      | (with_reducible apply Wo_nil)
      | ((with_reducible apply Wo_gt); (exact rfl); ((conv => lhs; simp -implicitDefEqProofs [*]) <;> exact rfl); (conv => lhs; simp -implicitDefEqProofs [*]) <;> exact rfl)
      | ((with_reducible apply Wo_gf); (exact rfl); ((conv => lhs; simp -implicitDefEqProofs [*]) <;> exact rfl); (exact rfl))
      | ((with_reducible apply Wo_gx); (exact rfl); ((conv => lhs; simp -implicitDefEqProofs [*]) <;> exact rfl))
      | ((with_reducible apply Wo_gsT); (exact rfl); ((conv => lhs; simp -implicitDefEqProofs [*]) <;> exact rfl))
      | ((with_reducible apply Wo_gsF); (exact rfl); ((conv => lhs; simp -implicitDefEqProofs [*]) <;> exact rfl))
      | ((with_reducible apply ex2); (conv => lhs; simp -implicitDefEqProofs [*]) <;> exact rfl)
      | (with_reducible apply W_ss) | (with_reducible apply W_srl) | (with_reducible apply W_rl)
      | ((with_reducible apply W_sc); (conv => lhs; simp -implicitDefEqProofs [*]) <;> exact rfl)
      | ((with_reducible apply W_c); (conv => lhs; simp -implicitDefEqProofs [*]) <;> exact rfl)
      | ((with_reducible apply W_srdl); kernel_rfl) | ((with_reducible apply W_rdl); kernel_rfl)
      | ((with_reducible apply Wd_u); (conv => lhs; simp -implicitDefEqProofs [*]) <;> exact rfl)
      | ((with_reducible apply Wd_n); (conv => lhs; simp -implicitDefEqProofs [*]) <;> exact rfl)
      | ((with_reducible apply Wd_nil); exact rfl)
      | ((with_reducible apply Wd_gsT); (exact rfl); ((conv => lhs; simp -implicitDefEqProofs [*]) <;> exact rfl))
      | ((with_reducible apply Wd_gsF); (exact rfl); ((conv => lhs; simp -implicitDefEqProofs [*]) <;> exact rfl))
      | ((with_reducible apply ex4); (conv => lhs; simp -implicitDefEqProofs [*]) <;> exact rfl)
      | (with_reducible apply W_sblock) | (with_reducible apply W_block) | (with_reducible apply W_sskip) | (with_reducible apply W_skip) | (with_reducible apply W_sret) | (with_reducible apply W_ret) | (with_reducible apply W_sexit) | (with_reducible apply W_exit)
      | (with_reducible apply thenW_n) | (with_reducible apply thenW_r) | (with_reducible apply thenW_e) | (with_reducible apply inB_n) | (with_reducible apply inB_r) | (with_reducible apply inB_e) | ((with_reducible apply inB_o); rotate_left; exact rfl)
      | ((with_reducible apply EndQ_ret); (conv => lhs; simp -implicitDefEqProofs [*]) <;> exact rfl) | ((with_reducible apply EndQ_normal); (conv => lhs; simp -implicitDefEqProofs [*]) <;> exact rfl)
      | (intro h h'; try simp [*, -h] at h'))
    all_goals exact ⟨rfl, by simp, by simp, by simp, by simp, by simp, by simp, by simp, by simp, by simp, by simp [hfw, c1], fun y hy => by simp [hy]⟩
  by_cases c2 : t.op = 3 ∨ t.op = 7
  · have ha := uses_a ht (by omega)
    have hb := uses_b ht c2
    have hat := atL_get hr ha.1 ha.2
    have hbt := atL_get hr hb.1 hb.2
    have hfw : fwdTac l t = { t with a := atL l t.a, b := atL l t.b } := by unfold fwdTac; rw [if_neg c1, if_pos c2]
    have hga : (rowsF l)[t.a.toNat]? = some [iv (atL l t.a)] := by rw [rowsF_get, hat.1]; rfl
    have hgb : (rowsF l)[t.b.toNat]? = some [iv (atL l t.b)] := by rw [rowsF_get, hbt.1]; rfl
    have ha0 : 0 ≤ t.a := ha.1
    have hb0 : 0 ≤ t.b := hb.1
    have han : t.a.toNat < n := by omega
    have hbn : t.b.toNat < n := by omega
    clear hat ha hbt hb
    rcases c2 with c2 | c2
    all_goals skip
    repeat' (first
      | ((with_reducible apply Wo_u); (conv => lhs; simp -implicitDefEqProofs [*]) <;> exact rfl)
      | ((with_reducible apply Wo_n); (conv => lhs; simp -implicitDefEqProofs [*]) <;> exact rfl)
      | (with_reducible apply Wo_nil)
      | ((with_reducible apply Wo_gt); (exact rfl); ((conv => lhs; simp -implicitDefEqProofs [*]) <;> exact rfl); (conv => lhs; simp -implicitDefEqProofs [*]) <;> exact rfl)
      | ((with_reducible apply Wo_gf); (exact rfl); ((conv => lhs; simp -implicitDefEqProofs [*]) <;> exact rfl); (exact rfl))
      | ((with_reducible apply Wo_gx); (exact rfl); ((conv => lhs; simp -implicitDefEqProofs [*]) <;> exact rfl))
      | ((with_reducible apply Wo_gsT); (exact rfl); ((conv => lhs; simp -implicitDefEqProofs [*]) <;> exact rfl))
      | ((with_reducible apply Wo_gsF); (exact rfl); ((conv => lhs; simp -implicitDefEqProofs [*]) <;> exact rfl))
      | ((with_reducible apply ex2); (conv => lhs; simp -implicitDefEqProofs [*]) <;> exact rfl)
      | (with_reducible apply W_ss) | (with_reducible apply W_srl) | (with_reducible apply W_rl)
      | ((with_reducible apply W_sc); (conv => lhs; simp -implicitDefEqProofs [*]) <;> exact rfl)
      | ((with_reducible apply W_c); (conv => lhs; simp -implicitDefEqProofs [*]) <;> exact rfl)
      | ((with_reducible apply W_srdl); kernel_rfl) | ((with_reducible apply W_rdl); kernel_rfl)
      | ((with_reducible apply Wd_u); (conv => lhs; simp -implicitDefEqProofs [*]) <;> exact rfl)
      | ((with_reducible apply Wd_n); (conv => lhs; simp -implicitDefEqProofs [*]) <;> exact rfl)
      | ((with_reducible apply Wd_nil); exact rfl)
      | ((with_reducible apply Wd_gsT); (exact rfl); ((conv => lhs; simp -implicitDefEqProofs [*]) <;> exact rfl))
      | ((with_reducible apply Wd_gsF); (exact rfl); ((conv => lhs; simp -implicitDefEqProofs [*]) <;> exact rfl))
      | ((with_reducible apply ex4); (conv => lhs; simp -implicitDefEqProofs [*]) <;> exact rfl)
      | (with_reducible apply W_sblock) | (with_reducible apply W_block) | (with_reducible apply W_sskip) | (with_reducible apply W_skip) | (with_reducible apply W_sret) | (with_reducible apply W_ret) | (with_reducible apply W_sexit) | (with_reducible apply W_exit)
      | (with_reducible apply thenW_n) | (with_reducible apply thenW_r) | (with_reducible apply thenW_e) | (with_reducible apply inB_n) | (with_reducible apply inB_r) | (with_reducible apply inB_e) | ((with_reducible apply inB_o); rotate_left; exact rfl)
      | ((with_reducible apply EndQ_ret); (conv => lhs; simp -implicitDefEqProofs [*]) <;> exact rfl) | ((with_reducible apply EndQ_normal); (conv => lhs; simp -implicitDefEqProofs [*]) <;> exact rfl)
      | (intro h h'; try simp [*, -h] at h'))
    all_goals exact ⟨rfl, by simp, by simp, by simp, by simp, by simp, by simp, by simp, by simp, by simp, by simp [hfw, c2], fun y hy => by simp [hy]⟩
  have hfw : fwdTac l t = t := by unfold fwdTac; rw [if_neg c1, if_neg c2]
  have e2 : (t.op == 2) = false := by simp; omega
  have e5 : (t.op == 5) = false := by simp; omega
  have e6 : (t.op == 6) = false := by simp; omega
  have e9 : (t.op == 9) = false := by simp; omega
  have e3 : (t.op == 3) = false := by simp; omega
  have e7 : (t.op == 7) = false := by simp; omega
  clear c1 c2
  repeat' (first
    | ((with_reducible apply Wo_u); (conv => lhs; simp -implicitDefEqProofs [*]) <;> exact rfl)
    | ((with_reducible apply Wo_n); (conv => lhs; simp -implicitDefEqProofs [*]) <;> exact rfl)
    | (with_reducible apply Wo_nil)
    | ((with_reducible apply Wo_gt); (exact rfl); ((conv => lhs; simp -implicitDefEqProofs [*]) <;> exact rfl); (conv => lhs; simp -implicitDefEqProofs [*]) <;> exact rfl)
    | ((with_reducible apply Wo_gf); (exact rfl); ((conv => lhs; simp -implicitDefEqProofs [*]) <;> exact rfl); (exact rfl))
    | ((with_reducible apply Wo_gx); (exact rfl); ((conv => lhs; simp -implicitDefEqProofs [*]) <;> exact rfl))
    | ((with_reducible apply Wo_gsT); (exact rfl); ((conv => lhs; simp -implicitDefEqProofs [*]) <;> exact rfl))
    | ((with_reducible apply Wo_gsF); (exact rfl); ((conv => lhs; simp -implicitDefEqProofs [*]) <;> exact rfl))
    | ((with_reducible apply ex2); (conv => lhs; simp -implicitDefEqProofs [*]) <;> exact rfl)
    | (with_reducible apply W_ss) | (with_reducible apply W_srl) | (with_reducible apply W_rl)
    | ((with_reducible apply W_sc); (conv => lhs; simp -implicitDefEqProofs [*]) <;> exact rfl)
    | ((with_reducible apply W_c); (conv => lhs; simp -implicitDefEqProofs [*]) <;> exact rfl)
    | ((with_reducible apply W_srdl); kernel_rfl) | ((with_reducible apply W_rdl); kernel_rfl)
    | ((with_reducible apply Wd_u); (conv => lhs; simp -implicitDefEqProofs [*]) <;> exact rfl)
    | ((with_reducible apply Wd_n); (conv => lhs; simp -implicitDefEqProofs [*]) <;> exact rfl)
    | ((with_reducible apply Wd_nil); exact rfl)
    | ((with_reducible apply Wd_gsT); (exact rfl); ((conv => lhs; simp -implicitDefEqProofs [*]) <;> exact rfl))
    | ((with_reducible apply Wd_gsF); (exact rfl); ((conv => lhs; simp -implicitDefEqProofs [*]) <;> exact rfl))
    | ((with_reducible apply ex4); (conv => lhs; simp -implicitDefEqProofs [*]) <;> exact rfl)
    | (with_reducible apply W_sblock) | (with_reducible apply W_block) | (with_reducible apply W_sskip) | (with_reducible apply W_skip) | (with_reducible apply W_sret) | (with_reducible apply W_ret) | (with_reducible apply W_sexit) | (with_reducible apply W_exit)
    | (with_reducible apply thenW_n) | (with_reducible apply thenW_r) | (with_reducible apply thenW_e) | (with_reducible apply inB_n) | (with_reducible apply inB_r) | (with_reducible apply inB_e) | ((with_reducible apply inB_o); rotate_left; exact rfl)
    | ((with_reducible apply EndQ_ret); (conv => lhs; simp -implicitDefEqProofs [*]) <;> exact rfl) | ((with_reducible apply EndQ_normal); (conv => lhs; simp -implicitDefEqProofs [*]) <;> exact rfl)
    | (intro h h'; try simp [*, -h] at h'))
  all_goals exact ⟨rfl, by simp, by simp, by simp, by simp, by simp, by simp, by simp, by simp, by simp, by simp [hfw, k9], fun y hy => by simp⟩
end Go.Proofs.Ytmfhdhiaokejdaa
