/- forward.forwarded, walked. Printed by a program (wip/tfw.py). -/
import Derived.Test.YtmfhdhiaokejdaaFw5
import Derived.Lib.Hide
namespace Go.Proofs.Ytmfhdhiaokejdaa
open Go Go.Ab
set_option linter.unusedSimpArgs false
set_option linter.unusedVariables false
/-- Behind an instruction. -/
structure RR (b : Blk) (k : Nat) (l : List Int) (rows : List (List AV)) (to : List (Option Nat)) (s : AS) (M : MM) : Prop where
  f35 : s.fr 35 = iv k
  f34 : s.fr 34 = iv b.ins.length
  f33 : s.fr 33 = .sl false 8 (b.ins.map Tac.row)
  f7 : s.fr 7 = .own nI 1 b.ins.length
  f5 : s.fr 5 = .ptr nC 1 0
  f2 : s.fr 2 = .ptr nB 1 0
  f4 : s.fr 4 = .ptr nR 1 0
  cs : CS s.hp 1 2 2 l to
  cp : CpOk M l to
  kB : s.hp nB = .box 1 [.sl false 8 (b.ins.map Tac.row), iv b.en, iv b.v, iv b.to, iv b.el] false
  kR : s.hp nR = .box 1 [.own ⟨0, 4, 1⟩ 1 0, iv 0, iv 0, iv 0, iv 0] false
  kR1 : s.hp ⟨0, 4, 1⟩ = .arr 1 8 40 [] false
  kI : s.hp nI = .arr 1 8 40 rows false
/-- Behind the first loop. -/
structure R1 (b : Blk) (n : Nat) (s : AS) : Prop where
  f5 : s.fr 5 = .ptr nC 1 0
  f2 : s.fr 2 = .ptr nB 1 0
  f4 : s.fr 4 = .ptr nR 1 0
  cs : CS s.hp 1 2 2 (idL n) (List.replicate n none)
  kB : s.hp nB = .box 1 [.sl false 8 (b.ins.map Tac.row), iv b.en, iv b.v, iv b.to, iv b.el] false
  kR : s.hp nR = .box 1 [.own ⟨0, 4, 1⟩ 1 0, iv 0, iv 0, iv 0, iv 0] false
  kR1 : s.hp ⟨0, 4, 1⟩ = .arr 1 8 40 [] false
  kI : s.hp nI = .no 0
set_option maxHeartbeats 4000000 in
theorem t22 {c : Code} (hcode : Try.f22.body = some c) (K : Nat → Prop) (B : Base) (b : Blk) (n : Nat) (hn : n ≤ 4000) (hlen : b.ins.length ≤ 100000) (hok : b.okR n) :
    T Try.prog 0 Try.f22.ntmps K B c ⟨frame0 [.agg b.row, iv n], hp0⟩ (fun _ => none) (fun e st' _ => (∀ i, e ≠ .exit i) ∧ ∃ hpf, (resultsP Try.prog st'.fr Try.f22.resultTypes.toList Try.f22.results.toList).run st'.hp =
      some ([.agg [.vec 8 ((fwdBlk n b).ins.map Tac.row), iv b.en, iv (fwdBlk n b).v, iv b.to, iv b.el]], hpf)) := by
  cases hcode
  have hbn : (n : Int) * 8 ≤ 140737488355328 := by omega
  have hbl : (b.ins.length : Int) * 64 ≤ 140737488355328 := by omega
  have hn1 : (n : Int) ≤ 9223372036854775807 := by omega
  have hbl1 : (b.ins.length : Int) ≤ 9223372036854775807 := by omega
  refine T_seq ?_
  refine T_ord mixed0 E0_law call0_ok (by kernel_rfl) ?_
  repeat' (first
    | ((with_reducible apply Wo_u); (conv => lhs; simp -implicitDefEqProofs [*]) <;> exact rfl)
    | ((with_reducible apply Wo_n); (conv => lhs; simp -implicitDefEqProofs [*]) <;> exact rfl)
    | (with_reducible apply Wo_nil)
    | ((with_reducible apply Wo_gt); (exact rfl); ((conv => lhs; simp -implicitDefEqProofs [*]) <;> exact rfl); (conv => lhs; simp -implicitDefEqProofs [*]) <;> exact rfl)
    | ((with_reducible apply Wo_gf); (exact rfl); ((conv => lhs; simp -implicitDefEqProofs [*]) <;> exact rfl); (exact rfl))
    | ((with_reducible apply Wo_gx); (exact rfl); ((conv => lhs; simp -implicitDefEqProofs [*]) <;> exact rfl))
    | ((with_reducible apply Wo_gsT); (exact rfl); ((conv => lhs; simp -implicitDefEqProofs [*]) <;> exact rfl))
    | ((with_reducible apply Wo_gsF); (exact rfl); ((conv => lhs; simp -implicitDefEqProofs [*]) <;> exact rfl))
    | ((with_reducible apply ex2); (conv => lhs; simp -implicitDefEqProofs [*]) <;> exact rfl)
    | (with_reducible apply W_ss) | (with_reducible apply W_srl) | (with_reducible apply W_rl)
    | ((with_reducible apply W_srdl); kernel_rfl) | ((with_reducible apply W_rdl); kernel_rfl)
    | ((with_reducible apply Wd_u); (conv => lhs; simp -implicitDefEqProofs [*]) <;> exact rfl)
    | ((with_reducible apply Wd_n); (conv => lhs; simp -implicitDefEqProofs [*]) <;> exact rfl)
    | ((with_reducible apply Wd_nil); exact rfl)
    | ((with_reducible apply Wd_gsT); (exact rfl); ((conv => lhs; simp -implicitDefEqProofs [*]) <;> exact rfl))
    | ((with_reducible apply Wd_gsF); (exact rfl); ((conv => lhs; simp -implicitDefEqProofs [*]) <;> exact rfl))
    | ((with_reducible apply ex4); (conv => lhs; simp -implicitDefEqProofs [*]) <;> exact rfl)
    | (with_reducible apply W_sblock) | (with_reducible apply W_block) | (with_reducible apply W_sskip) | (with_reducible apply W_skip) | (with_reducible apply W_sret) | (with_reducible apply W_ret) | (with_reducible apply W_sexit) | (with_reducible apply W_exit)
    | (with_reducible apply thenW_n) | (with_reducible apply thenW_r) | (with_reducible apply thenW_e) | (with_reducible apply inB_n) | (with_reducible apply inB_r) | (with_reducible apply inB_e) | ((with_reducible apply inB_o); rotate_left; exact rfl)
    | ((with_reducible apply EndQ_ret); (conv => lhs; simp -implicitDefEqProofs [*]) <;> exact rfl) | ((with_reducible apply EndQ_normal); (conv => lhs; simp -implicitDefEqProofs [*]) <;> exact rfl)
    | (with_reducible apply thenT_n) | (with_reducible apply thenT_r) | (with_reducible apply thenT_e))
  refine T_seq ?_
  refine T_ord mixed0 E0_law call0_ok (by kernel_rfl) ?_
  repeat' (first
    | ((with_reducible apply Wo_u); (conv => lhs; simp -implicitDefEqProofs [*]) <;> exact rfl)
    | ((with_reducible apply Wo_n); (conv => lhs; simp -implicitDefEqProofs [*]) <;> exact rfl)
    | (with_reducible apply Wo_nil)
    | ((with_reducible apply Wo_gt); (exact rfl); ((conv => lhs; simp -implicitDefEqProofs [*]) <;> exact rfl); (conv => lhs; simp -implicitDefEqProofs [*]) <;> exact rfl)
    | ((with_reducible apply Wo_gf); (exact rfl); ((conv => lhs; simp -implicitDefEqProofs [*]) <;> exact rfl); (exact rfl))
    | ((with_reducible apply Wo_gx); (exact rfl); ((conv => lhs; simp -implicitDefEqProofs [*]) <;> exact rfl))
    | ((with_reducible apply Wo_gsT); (exact rfl); ((conv => lhs; simp -implicitDefEqProofs [*]) <;> exact rfl))
    | ((with_reducible apply Wo_gsF); (exact rfl); ((conv => lhs; simp -implicitDefEqProofs [*]) <;> exact rfl))
    | ((with_reducible apply ex2); (conv => lhs; simp -implicitDefEqProofs [*]) <;> exact rfl)
    | (with_reducible apply W_ss) | (with_reducible apply W_srl) | (with_reducible apply W_rl)
    | ((with_reducible apply W_srdl); kernel_rfl) | ((with_reducible apply W_rdl); kernel_rfl)
    | ((with_reducible apply Wd_u); (conv => lhs; simp -implicitDefEqProofs [*]) <;> exact rfl)
    | ((with_reducible apply Wd_n); (conv => lhs; simp -implicitDefEqProofs [*]) <;> exact rfl)
    | ((with_reducible apply Wd_nil); exact rfl)
    | ((with_reducible apply Wd_gsT); (exact rfl); ((conv => lhs; simp -implicitDefEqProofs [*]) <;> exact rfl))
    | ((with_reducible apply Wd_gsF); (exact rfl); ((conv => lhs; simp -implicitDefEqProofs [*]) <;> exact rfl))
    | ((with_reducible apply ex4); (conv => lhs; simp -implicitDefEqProofs [*]) <;> exact rfl)
    | (with_reducible apply W_sblock) | (with_reducible apply W_block) | (with_reducible apply W_sskip) | (with_reducible apply W_skip) | (with_reducible apply W_sret) | (with_reducible apply W_ret) | (with_reducible apply W_sexit) | (with_reducible apply W_exit)
    | (with_reducible apply thenW_n) | (with_reducible apply thenW_r) | (with_reducible apply thenW_e) | (with_reducible apply inB_n) | (with_reducible apply inB_r) | (with_reducible apply inB_e) | ((with_reducible apply inB_o); rotate_left; exact rfl)
    | ((with_reducible apply EndQ_ret); (conv => lhs; simp -implicitDefEqProofs [*]) <;> exact rfl) | ((with_reducible apply EndQ_normal); (conv => lhs; simp -implicitDefEqProofs [*]) <;> exact rfl)
    | (with_reducible apply thenT_n) | (with_reducible apply thenT_r) | (with_reducible apply thenT_e))
  refine T_seq ((T_ord mixed0 E0_law call0_ok (by kernel_rfl) (Q := fun e s M' => e = Ex.normal ∧ M' = (fun _ => none) ∧ R1 b n s) ?_).mono ?_)
  · skip
    repeat' (first
      | ((with_reducible apply Wo_u); (conv => lhs; simp -implicitDefEqProofs [*]) <;> exact rfl)
      | ((with_reducible apply Wo_n); (conv => lhs; simp -implicitDefEqProofs [*]) <;> exact rfl)
      | (with_reducible apply Wo_nil)
      | ((with_reducible apply Wo_gt); (exact rfl); ((conv => lhs; simp -implicitDefEqProofs [*]) <;> exact rfl); (conv => lhs; simp -implicitDefEqProofs [*]) <;> exact rfl)
      | ((with_reducible apply Wo_gf); (exact rfl); ((conv => lhs; simp -implicitDefEqProofs [*]) <;> exact rfl); (exact rfl))
      | ((with_reducible apply Wo_gx); (exact rfl); ((conv => lhs; simp -implicitDefEqProofs [*]) <;> exact rfl))
      | ((with_reducible apply Wo_gsT); (exact rfl); ((conv => lhs; simp -implicitDefEqProofs [*]) <;> exact rfl))
      | ((with_reducible apply Wo_gsF); (exact rfl); ((conv => lhs; simp -implicitDefEqProofs [*]) <;> exact rfl))
      | ((with_reducible apply ex2); (conv => lhs; simp -implicitDefEqProofs [*]) <;> exact rfl)
      | (with_reducible apply W_ss) | (with_reducible apply W_srl) | (with_reducible apply W_rl)
      | ((with_reducible apply W_sc); (conv => lhs; simp -implicitDefEqProofs [*]) <;> exact rfl)
      | ((with_reducible apply W_c); (conv => lhs; simp -implicitDefEqProofs [*]) <;> exact rfl)
      | ((with_reducible apply W_srdl); kernel_rfl) | ((with_reducible apply W_rdl); kernel_rfl)
      | ((with_reducible apply Wd_u); (conv => lhs; simp -implicitDefEqProofs [*]) <;> exact rfl)
      | ((with_reducible apply Wd_n); (conv => lhs; simp -implicitDefEqProofs [*]) <;> exact rfl)
      | ((with_reducible apply Wd_nil); exact rfl)
      | ((with_reducible apply Wd_gsT); (exact rfl); ((conv => lhs; simp -implicitDefEqProofs [*]) <;> exact rfl))
      | ((with_reducible apply Wd_gsF); (exact rfl); ((conv => lhs; simp -implicitDefEqProofs [*]) <;> exact rfl))
      | ((with_reducible apply ex4); (conv => lhs; simp -implicitDefEqProofs [*]) <;> exact rfl)
      | (with_reducible apply W_sblock) | (with_reducible apply W_block) | (with_reducible apply W_sskip) | (with_reducible apply W_skip) | (with_reducible apply W_sret) | (with_reducible apply W_ret) | (with_reducible apply W_sexit) | (with_reducible apply W_exit)
      | (with_reducible apply thenW_n) | (with_reducible apply thenW_r) | (with_reducible apply thenW_e) | (with_reducible apply inB_n) | (with_reducible apply inB_r) | (with_reducible apply inB_e) | ((with_reducible apply inB_o); rotate_left; exact rfl)
      | ((with_reducible apply EndQ_ret); (conv => lhs; simp -implicitDefEqProofs [*]) <;> exact rfl) | ((with_reducible apply EndQ_normal); (conv => lhs; simp -implicitDefEqProofs [*]) <;> exact rfl)
      | (intro h h'; try simp [*, -h] at h'))
    refine W_loopS (n := n) (fun s0 m s => ∃ k : Nat, m = n - k ∧ k ≤ n ∧ s.fr 19 = iv k ∧ s.fr 5 = s0.fr 5 ∧ s.fr 2 = s0.fr 2 ∧ s.fr 4 = s0.fr 4 ∧ s.fr 18 = s0.fr 18 ∧ s.hp ⟨0, 2, 0⟩ = s0.hp ⟨0, 2, 0⟩ ∧ s.hp ⟨0, 4, 0⟩ = s0.hp ⟨0, 4, 0⟩ ∧ s.hp ⟨0, 4, 1⟩ = s0.hp ⟨0, 4, 1⟩ ∧ s.hp ⟨0, 5, 0⟩ = s0.hp ⟨0, 5, 0⟩ ∧ s.hp ⟨0, 5, 2⟩ = s0.hp ⟨0, 5, 2⟩ ∧ s.hp ⟨0, 31, 0⟩ = s0.hp ⟨0, 31, 0⟩ ∧ s.hp ⟨0, 5, 1⟩ = .arr 2 1 3 (rowsF (initF n k)) false) ⟨0, by simp, by first | omega | simp, by simp, by simp, by simp, by simp, by simp, by simp, by simp, by simp, by simp, by simp, by simp, by simp [initF_zero]⟩ ?_
    rintro m ⟨fr, hp⟩ ⟨k, rfl, hk, hs19, hs5, hs2, hs4, hs18, hh0_2_0, hh0_4_0, hh0_4_1, hh0_5_0, hh0_5_2, hh0_31_0, hh0_5_1⟩
    simp at hs19 hs5 hs2 hs4 hs18 hh0_2_0 hh0_4_0 hh0_4_1 hh0_5_0 hh0_5_2 hh0_31_0 hh0_5_1
    by_cases hlt : k < n
    · have hw := wrapN0 (k := k) (by omega)
      have hg : (rowsF (initF n k))[k]? = some [iv 0] := by
        rw [rowsF_get]
        simp [initF, hlt]
      have hls : k < (initF n k).length := by rw [initF_len]; exact hlt
      repeat' (first
        | ((with_reducible apply Wo_u); (conv => lhs; simp -implicitDefEqProofs [*]) <;> exact rfl)
        | ((with_reducible apply Wo_n); (conv => lhs; simp -implicitDefEqProofs [*]) <;> exact rfl)
        | (with_reducible apply Wo_nil)
        | ((with_reducible apply Wo_gt); (exact rfl); ((conv => lhs; simp -implicitDefEqProofs [*]) <;> exact rfl); (conv => lhs; simp -implicitDefEqProofs [*]) <;> exact rfl)
        | ((with_reducible apply Wo_gf); (exact rfl); ((conv => lhs; simp -implicitDefEqProofs [*]) <;> exact rfl); (exact rfl))
        | ((with_reducible apply Wo_gx); (exact rfl); ((conv => lhs; simp -implicitDefEqProofs [*]) <;> exact rfl))
        | ((with_reducible apply Wo_gsT); (exact rfl); ((conv => lhs; simp -implicitDefEqProofs [*]) <;> exact rfl))
        | ((with_reducible apply Wo_gsF); (exact rfl); ((conv => lhs; simp -implicitDefEqProofs [*]) <;> exact rfl))
        | ((with_reducible apply ex2); (conv => lhs; simp -implicitDefEqProofs [*]) <;> exact rfl)
        | (with_reducible apply W_ss) | (with_reducible apply W_srl) | (with_reducible apply W_rl)
        | ((with_reducible apply W_sc); (conv => lhs; simp -implicitDefEqProofs [*]) <;> exact rfl)
        | ((with_reducible apply W_c); (conv => lhs; simp -implicitDefEqProofs [*]) <;> exact rfl)
        | ((with_reducible apply W_srdl); kernel_rfl) | ((with_reducible apply W_rdl); kernel_rfl)
        | ((with_reducible apply Wd_u); (conv => lhs; simp -implicitDefEqProofs [*]) <;> exact rfl)
        | ((with_reducible apply Wd_n); (conv => lhs; simp -implicitDefEqProofs [*]) <;> exact rfl)
        | ((with_reducible apply Wd_nil); exact rfl)
        | ((with_reducible apply Wd_gsT); (exact rfl); ((conv => lhs; simp -implicitDefEqProofs [*]) <;> exact rfl))
        | ((with_reducible apply Wd_gsF); (exact rfl); ((conv => lhs; simp -implicitDefEqProofs [*]) <;> exact rfl))
        | ((with_reducible apply ex4); (conv => lhs; simp -implicitDefEqProofs [*]) <;> exact rfl)
        | (with_reducible apply W_sblock) | (with_reducible apply W_block) | (with_reducible apply W_sskip) | (with_reducible apply W_skip) | (with_reducible apply W_sret) | (with_reducible apply W_ret) | (with_reducible apply W_sexit) | (with_reducible apply W_exit)
        | (with_reducible apply thenW_n) | (with_reducible apply thenW_r) | (with_reducible apply thenW_e) | (with_reducible apply inB_n) | (with_reducible apply inB_r) | (with_reducible apply inB_e) | ((with_reducible apply inB_o); rotate_left; exact rfl)
        | ((with_reducible apply EndQ_ret); (conv => lhs; simp -implicitDefEqProofs [*]) <;> exact rfl) | ((with_reducible apply EndQ_normal); (conv => lhs; simp -implicitDefEqProofs [*]) <;> exact rfl)
        | (intro h h'; try simp [*, -h] at h'))
      exact ⟨_, by omega, k + 1, rfl, hlt, by simp, by simp [*], by simp [*], by simp [*], by simp [*], by simp [*], by simp [*], by simp [*], by simp [*], by simp [*], by simp [*], by simp [rowsF_set, initF_succ hlt]⟩
    · obtain rfl : k = n := by omega
      repeat' (first
        | ((with_reducible apply Wo_u); (conv => lhs; simp -implicitDefEqProofs [*]) <;> exact rfl)
        | ((with_reducible apply Wo_n); (conv => lhs; simp -implicitDefEqProofs [*]) <;> exact rfl)
        | (with_reducible apply Wo_nil)
        | ((with_reducible apply Wo_gt); (exact rfl); ((conv => lhs; simp -implicitDefEqProofs [*]) <;> exact rfl); (conv => lhs; simp -implicitDefEqProofs [*]) <;> exact rfl)
        | ((with_reducible apply Wo_gf); (exact rfl); ((conv => lhs; simp -implicitDefEqProofs [*]) <;> exact rfl); (exact rfl))
        | ((with_reducible apply Wo_gx); (exact rfl); ((conv => lhs; simp -implicitDefEqProofs [*]) <;> exact rfl))
        | ((with_reducible apply Wo_gsT); (exact rfl); ((conv => lhs; simp -implicitDefEqProofs [*]) <;> exact rfl))
        | ((with_reducible apply Wo_gsF); (exact rfl); ((conv => lhs; simp -implicitDefEqProofs [*]) <;> exact rfl))
        | ((with_reducible apply ex2); (conv => lhs; simp -implicitDefEqProofs [*]) <;> exact rfl)
        | (with_reducible apply W_ss) | (with_reducible apply W_srl) | (with_reducible apply W_rl)
        | ((with_reducible apply W_sc); (conv => lhs; simp -implicitDefEqProofs [*]) <;> exact rfl)
        | ((with_reducible apply W_c); (conv => lhs; simp -implicitDefEqProofs [*]) <;> exact rfl)
        | ((with_reducible apply W_srdl); kernel_rfl) | ((with_reducible apply W_rdl); kernel_rfl)
        | ((with_reducible apply Wd_u); (conv => lhs; simp -implicitDefEqProofs [*]) <;> exact rfl)
        | ((with_reducible apply Wd_n); (conv => lhs; simp -implicitDefEqProofs [*]) <;> exact rfl)
        | ((with_reducible apply Wd_nil); exact rfl)
        | ((with_reducible apply Wd_gsT); (exact rfl); ((conv => lhs; simp -implicitDefEqProofs [*]) <;> exact rfl))
        | ((with_reducible apply Wd_gsF); (exact rfl); ((conv => lhs; simp -implicitDefEqProofs [*]) <;> exact rfl))
        | ((with_reducible apply ex4); (conv => lhs; simp -implicitDefEqProofs [*]) <;> exact rfl)
        | (with_reducible apply W_sblock) | (with_reducible apply W_block) | (with_reducible apply W_sskip) | (with_reducible apply W_skip) | (with_reducible apply W_sret) | (with_reducible apply W_ret) | (with_reducible apply W_sexit) | (with_reducible apply W_exit)
        | (with_reducible apply thenW_n) | (with_reducible apply thenW_r) | (with_reducible apply thenW_e) | (with_reducible apply inB_n) | (with_reducible apply inB_r) | (with_reducible apply inB_e) | ((with_reducible apply inB_o); rotate_left; exact rfl)
        | ((with_reducible apply EndQ_ret); (conv => lhs; simp -implicitDefEqProofs [*]) <;> exact rfl) | ((with_reducible apply EndQ_normal); (conv => lhs; simp -implicitDefEqProofs [*]) <;> exact rfl)
        | (intro h h'; try simp [*, -h] at h'))
      exact ⟨rfl, rfl, by simp [*], by simp [*], by simp [*], ⟨by simp [*, idL_len], by simp [*, initF_all], by simp [*, rowsT_nil]⟩, by simp [*], by simp [*], by simp [*], by simp [*]⟩
  rintro e ⟨fr, hp⟩ M' ⟨rfl, rfl, f5, f2, f4, hcs, kB, kR, kR1, kI⟩
  refine thenT_n ?_
  simp only at f5 f2 f4 hcs kB kR kR1 kI
  refine T_seq ?_
  refine T_ord mixed0 E0_law call0_ok (by kernel_rfl) ?_
  repeat' (first
    | ((with_reducible apply Wo_u); (conv => lhs; simp -implicitDefEqProofs [*]) <;> exact rfl)
    | ((with_reducible apply Wo_n); (conv => lhs; simp -implicitDefEqProofs [*]) <;> exact rfl)
    | (with_reducible apply Wo_nil)
    | ((with_reducible apply Wo_gt); (exact rfl); ((conv => lhs; simp -implicitDefEqProofs [*]) <;> exact rfl); (conv => lhs; simp -implicitDefEqProofs [*]) <;> exact rfl)
    | ((with_reducible apply Wo_gf); (exact rfl); ((conv => lhs; simp -implicitDefEqProofs [*]) <;> exact rfl); (exact rfl))
    | ((with_reducible apply Wo_gx); (exact rfl); ((conv => lhs; simp -implicitDefEqProofs [*]) <;> exact rfl))
    | ((with_reducible apply Wo_gsT); (exact rfl); ((conv => lhs; simp -implicitDefEqProofs [*]) <;> exact rfl))
    | ((with_reducible apply Wo_gsF); (exact rfl); ((conv => lhs; simp -implicitDefEqProofs [*]) <;> exact rfl))
    | ((with_reducible apply ex2); (conv => lhs; simp -implicitDefEqProofs [*]) <;> exact rfl)
    | (with_reducible apply W_ss) | (with_reducible apply W_srl) | (with_reducible apply W_rl)
    | ((with_reducible apply W_srdl); kernel_rfl) | ((with_reducible apply W_rdl); kernel_rfl)
    | ((with_reducible apply Wd_u); (conv => lhs; simp -implicitDefEqProofs [*]) <;> exact rfl)
    | ((with_reducible apply Wd_n); (conv => lhs; simp -implicitDefEqProofs [*]) <;> exact rfl)
    | ((with_reducible apply Wd_nil); exact rfl)
    | ((with_reducible apply Wd_gsT); (exact rfl); ((conv => lhs; simp -implicitDefEqProofs [*]) <;> exact rfl))
    | ((with_reducible apply Wd_gsF); (exact rfl); ((conv => lhs; simp -implicitDefEqProofs [*]) <;> exact rfl))
    | ((with_reducible apply ex4); (conv => lhs; simp -implicitDefEqProofs [*]) <;> exact rfl)
    | (with_reducible apply W_sblock) | (with_reducible apply W_block) | (with_reducible apply W_sskip) | (with_reducible apply W_skip) | (with_reducible apply W_sret) | (with_reducible apply W_ret) | (with_reducible apply W_sexit) | (with_reducible apply W_exit)
    | (with_reducible apply thenW_n) | (with_reducible apply thenW_r) | (with_reducible apply thenW_e) | (with_reducible apply inB_n) | (with_reducible apply inB_r) | (with_reducible apply inB_e) | ((with_reducible apply inB_o); rotate_left; exact rfl)
    | ((with_reducible apply EndQ_ret); (conv => lhs; simp -implicitDefEqProofs [*]) <;> exact rfl) | ((with_reducible apply EndQ_normal); (conv => lhs; simp -implicitDefEqProofs [*]) <;> exact rfl)
    | (with_reducible apply thenT_n) | (with_reducible apply thenT_r) | (with_reducible apply thenT_e))
  refine T_seq (T_seq ?_)
  refine T_ord mixed0 E0_law call0_ok (by kernel_rfl) ?_
  repeat' (first
    | ((with_reducible apply Wo_u); (conv => lhs; simp -implicitDefEqProofs [*]) <;> exact rfl)
    | ((with_reducible apply Wo_n); (conv => lhs; simp -implicitDefEqProofs [*]) <;> exact rfl)
    | (with_reducible apply Wo_nil)
    | ((with_reducible apply Wo_gt); (exact rfl); ((conv => lhs; simp -implicitDefEqProofs [*]) <;> exact rfl); (conv => lhs; simp -implicitDefEqProofs [*]) <;> exact rfl)
    | ((with_reducible apply Wo_gf); (exact rfl); ((conv => lhs; simp -implicitDefEqProofs [*]) <;> exact rfl); (exact rfl))
    | ((with_reducible apply Wo_gx); (exact rfl); ((conv => lhs; simp -implicitDefEqProofs [*]) <;> exact rfl))
    | ((with_reducible apply Wo_gsT); (exact rfl); ((conv => lhs; simp -implicitDefEqProofs [*]) <;> exact rfl))
    | ((with_reducible apply Wo_gsF); (exact rfl); ((conv => lhs; simp -implicitDefEqProofs [*]) <;> exact rfl))
    | ((with_reducible apply ex2); (conv => lhs; simp -implicitDefEqProofs [*]) <;> exact rfl)
    | (with_reducible apply W_ss) | (with_reducible apply W_srl) | (with_reducible apply W_rl)
    | ((with_reducible apply W_srdl); kernel_rfl) | ((with_reducible apply W_rdl); kernel_rfl)
    | ((with_reducible apply Wd_u); (conv => lhs; simp -implicitDefEqProofs [*]) <;> exact rfl)
    | ((with_reducible apply Wd_n); (conv => lhs; simp -implicitDefEqProofs [*]) <;> exact rfl)
    | ((with_reducible apply Wd_nil); exact rfl)
    | ((with_reducible apply Wd_gsT); (exact rfl); ((conv => lhs; simp -implicitDefEqProofs [*]) <;> exact rfl))
    | ((with_reducible apply Wd_gsF); (exact rfl); ((conv => lhs; simp -implicitDefEqProofs [*]) <;> exact rfl))
    | ((with_reducible apply ex4); (conv => lhs; simp -implicitDefEqProofs [*]) <;> exact rfl)
    | (with_reducible apply W_sblock) | (with_reducible apply W_block) | (with_reducible apply W_sskip) | (with_reducible apply W_skip) | (with_reducible apply W_sret) | (with_reducible apply W_ret) | (with_reducible apply W_sexit) | (with_reducible apply W_exit)
    | (with_reducible apply thenW_n) | (with_reducible apply thenW_r) | (with_reducible apply thenW_e) | (with_reducible apply inB_n) | (with_reducible apply inB_r) | (with_reducible apply inB_e) | ((with_reducible apply inB_o); rotate_left; exact rfl)
    | ((with_reducible apply EndQ_ret); (conv => lhs; simp -implicitDefEqProofs [*]) <;> exact rfl) | ((with_reducible apply EndQ_normal); (conv => lhs; simp -implicitDefEqProofs [*]) <;> exact rfl)
    | (with_reducible apply thenT_n) | (with_reducible apply thenT_r) | (with_reducible apply thenT_e))
  refine T_block ?_
  refine T_loop (n := b.ins.length) (fun m s M' => ∃ (k : Nat) (to : List (Option Nat)), m = b.ins.length - k ∧ k ≤ b.ins.length ∧ s.fr 35 = iv k ∧ s.fr 34 = iv b.ins.length ∧ s.fr 33 = .sl false 8 (b.ins.map Tac.row) ∧ s.fr 7 = .own nI 1 b.ins.length ∧ s.fr 5 = .ptr nC 1 0 ∧ s.fr 2 = .ptr nB 1 0 ∧ s.fr 4 = .ptr nR 1 0 ∧
    CS s.hp 1 2 2 (stN (idL n) b.ins k) to ∧ CpOk M' (stN (idL n) b.ins k) to ∧ s.hp nB = .box 1 [.sl false 8 (b.ins.map Tac.row), iv b.en, iv b.v, iv b.to, iv b.el] false ∧ s.hp nR = .box 1 [.own ⟨0, 4, 1⟩ 1 0, iv 0, iv 0, iv 0, iv 0] false ∧ s.hp ⟨0, 4, 1⟩ = .arr 1 8 40 [] false ∧
    s.hp nI = .arr 1 8 40 ((insAt (idL n) b.ins k).map Tac.row) false)
    ⟨0, List.replicate n none, by simp, by simp, by simp, by simp, by simp, by simp, by simp [f5], by simp [f2], by simp [f4], by rw [stN_zero]; exact ⟨by simp [hcs.box], by simp [hcs.from'], by simp [hcs.to']⟩, by rw [stN_zero]; exact .start _ n, by simp [kB], by simp [kR], by simp [kR1], by
      rw [← insRows_zero]; simp⟩ ?_
  clear f5 f2 f4 hcs kB kR kR1 kI
  rintro m ⟨fr, hp⟩ M' ⟨k, to, rfl, hk, f35, f34, f33, f7, f5, f2, f4, hcs, hcp, kB, kR, kR1, kI⟩
  simp only at f35 f34 f33 f7 f5 f2 f4 hcs kB kR kR1 kI
  have hrng := stN_rng (idL_rng n) hok.ins k hk
  by_cases hlt : k < b.ins.length
  · have hg := List.getElem?_eq_getElem hlt
    have htok := hok.ins _ (List.getElem_mem hlt)
    have hsucc := stN_succ (l0 := idL n) hg
    have hins := insAt_succ (l0 := idL n) hg
    have hilen := insAt_len (idL n) b.ins k
    generalize hl : stN (idL n) b.ins k = l at *
    have hw := wrapN0 (k := k) (by omega)
    have hks : k < (insAt (idL n) b.ins k).length := by omega
    have HS := Lib.hid hsucc
    have HI := Lib.hid hins
    have HT := Lib.hid htok
    clear hsucc hins htok hok
    refine T_seq ?_
    refine T_ord mixed0 E0_law call0_ok (by kernel_rfl) ?_
    repeat' (first
      | ((with_reducible apply Wo_u); (conv => lhs; simp -implicitDefEqProofs [*]) <;> exact rfl)
      | ((with_reducible apply Wo_n); (conv => lhs; simp -implicitDefEqProofs [*]) <;> exact rfl)
      | (with_reducible apply Wo_nil)
      | ((with_reducible apply Wo_gt); (exact rfl); ((conv => lhs; simp -implicitDefEqProofs [*]) <;> exact rfl); (conv => lhs; simp -implicitDefEqProofs [*]) <;> exact rfl)
      | ((with_reducible apply Wo_gf); (exact rfl); ((conv => lhs; simp -implicitDefEqProofs [*]) <;> exact rfl); (exact rfl))
      | ((with_reducible apply Wo_gx); (exact rfl); ((conv => lhs; simp -implicitDefEqProofs [*]) <;> exact rfl))
      | ((with_reducible apply Wo_gsT); (exact rfl); ((conv => lhs; simp -implicitDefEqProofs [*]) <;> exact rfl))
      | ((with_reducible apply Wo_gsF); (exact rfl); ((conv => lhs; simp -implicitDefEqProofs [*]) <;> exact rfl))
      | ((with_reducible apply ex2); (conv => lhs; simp -implicitDefEqProofs [*]) <;> exact rfl)
      | (with_reducible apply W_ss) | (with_reducible apply W_srl) | (with_reducible apply W_rl)
      | ((with_reducible apply W_srdl); kernel_rfl) | ((with_reducible apply W_rdl); kernel_rfl)
      | ((with_reducible apply Wd_u); (conv => lhs; simp -implicitDefEqProofs [*]) <;> exact rfl)
      | ((with_reducible apply Wd_n); (conv => lhs; simp -implicitDefEqProofs [*]) <;> exact rfl)
      | ((with_reducible apply Wd_nil); exact rfl)
      | ((with_reducible apply Wd_gsT); (exact rfl); ((conv => lhs; simp -implicitDefEqProofs [*]) <;> exact rfl))
      | ((with_reducible apply Wd_gsF); (exact rfl); ((conv => lhs; simp -implicitDefEqProofs [*]) <;> exact rfl))
      | ((with_reducible apply ex4); (conv => lhs; simp -implicitDefEqProofs [*]) <;> exact rfl)
      | (with_reducible apply W_sblock) | (with_reducible apply W_block) | (with_reducible apply W_sskip) | (with_reducible apply W_skip) | (with_reducible apply W_sret) | (with_reducible apply W_ret) | (with_reducible apply W_sexit) | (with_reducible apply W_exit)
      | (with_reducible apply thenW_n) | (with_reducible apply thenW_r) | (with_reducible apply thenW_e) | (with_reducible apply inB_n) | (with_reducible apply inB_r) | (with_reducible apply inB_e) | ((with_reducible apply inB_o); rotate_left; exact rfl)
      | ((with_reducible apply EndQ_ret); (conv => lhs; simp -implicitDefEqProofs [*]) <;> exact rfl) | ((with_reducible apply EndQ_normal); (conv => lhs; simp -implicitDefEqProofs [*]) <;> exact rfl)
      | (with_reducible apply thenT_n) | (with_reducible apply thenT_r) | (with_reducible apply thenT_e))
    refine T_seq (T_ct (by simp [hlt]) (T_skip ?_))
    repeat (first | (with_reducible apply thenT_e) | (with_reducible apply thenT_r) | (with_reducible apply inT_e) | (with_reducible apply inT_n) | (with_reducible apply thenT_n))
    refine T_seq (T.mono (Q := fun e s M3 => e = Ex.normal ∧ ∃ to3, RR b k (fwdStep l b.ins[k]) ((insAt (idL n) b.ins (k + 1)).map Tac.row) to3 s M3) (T_block (T_seq ?_)) ?_)
    · refine T_ord mixed0 E0_law call0_ok (by kernel_rfl) ?_
      repeat' (first
        | ((with_reducible apply Wo_u); (conv => lhs; simp -implicitDefEqProofs [*]) <;> exact rfl)
        | ((with_reducible apply Wo_n); (conv => lhs; simp -implicitDefEqProofs [*]) <;> exact rfl)
        | (with_reducible apply Wo_nil)
        | ((with_reducible apply Wo_gt); (exact rfl); ((conv => lhs; simp -implicitDefEqProofs [*]) <;> exact rfl); (conv => lhs; simp -implicitDefEqProofs [*]) <;> exact rfl)
        | ((with_reducible apply Wo_gf); (exact rfl); ((conv => lhs; simp -implicitDefEqProofs [*]) <;> exact rfl); (exact rfl))
        | ((with_reducible apply Wo_gx); (exact rfl); ((conv => lhs; simp -implicitDefEqProofs [*]) <;> exact rfl))
        | ((with_reducible apply Wo_gsT); (exact rfl); ((conv => lhs; simp -implicitDefEqProofs [*]) <;> exact rfl))
        | ((with_reducible apply Wo_gsF); (exact rfl); ((conv => lhs; simp -implicitDefEqProofs [*]) <;> exact rfl))
        | ((with_reducible apply ex2); (conv => lhs; simp -implicitDefEqProofs [*]) <;> exact rfl)
        | (with_reducible apply W_ss) | (with_reducible apply W_srl) | (with_reducible apply W_rl)
        | ((with_reducible apply W_srdl); kernel_rfl) | ((with_reducible apply W_rdl); kernel_rfl)
        | ((with_reducible apply Wd_u); (conv => lhs; simp -implicitDefEqProofs [*]) <;> exact rfl)
        | ((with_reducible apply Wd_n); (conv => lhs; simp -implicitDefEqProofs [*]) <;> exact rfl)
        | ((with_reducible apply Wd_nil); exact rfl)
        | ((with_reducible apply Wd_gsT); (exact rfl); ((conv => lhs; simp -implicitDefEqProofs [*]) <;> exact rfl))
        | ((with_reducible apply Wd_gsF); (exact rfl); ((conv => lhs; simp -implicitDefEqProofs [*]) <;> exact rfl))
        | ((with_reducible apply ex4); (conv => lhs; simp -implicitDefEqProofs [*]) <;> exact rfl)
        | (with_reducible apply W_sblock) | (with_reducible apply W_block) | (with_reducible apply W_sskip) | (with_reducible apply W_skip) | (with_reducible apply W_sret) | (with_reducible apply W_ret) | (with_reducible apply W_sexit) | (with_reducible apply W_exit)
        | (with_reducible apply thenW_n) | (with_reducible apply thenW_r) | (with_reducible apply thenW_e) | (with_reducible apply inB_n) | (with_reducible apply inB_r) | (with_reducible apply inB_e) | ((with_reducible apply inB_o); rotate_left; exact rfl)
        | ((with_reducible apply EndQ_ret); (conv => lhs; simp -implicitDefEqProofs [*]) <;> exact rfl) | ((with_reducible apply EndQ_normal); (conv => lhs; simp -implicitDefEqProofs [*]) <;> exact rfl)
        | (with_reducible apply thenT_n) | (with_reducible apply thenT_r) | (with_reducible apply thenT_e))
      refine T_seq (T.mono (T_ord mixed0 E0_law call0_ok (by kernel_rfl) (Q := fun e s M1 => e = Ex.normal ∧ M1 = M' ∧ R2 _ _ ((hp n9).gen + 1) l b.ins[k] s) ((p22 rfl _ _ _ n l to b.ins[k] (by simp [f5]) (by simp) ⟨by simp [hcs.box], by simp [hcs.from'], by simp [hcs.to']⟩ (by simp) hrng HT.out).mono (fun e s h => ⟨h.1, rfl, h.2⟩))) ?_)
      rintro e ⟨fr1, hp1⟩ M1 ⟨rfl, rfl, r⟩
      refine thenT_n ?_
      have q35 : fr1 35 = iv k := by have := r.f35; simpa [f35] using this
      have q34 : fr1 34 = iv b.ins.length := by have := r.f34; simpa [f34] using this
      have q33 : fr1 33 = .sl false 8 (b.ins.map Tac.row) := by have := r.f33; simpa [f33] using this
      have q7 : fr1 7 = .own nI 1 b.ins.length := by have := r.f7; simpa [f7] using this
      have q5 : fr1 5 = .ptr nC 1 0 := by have := r.f5; simpa [f5] using this
      have q2 : fr1 2 = .ptr nB 1 0 := by have := r.f2; simpa [f2] using this
      have q4 : fr1 4 = .ptr nR 1 0 := by have := r.f4; simpa [f4] using this
      have q8 : fr1 8 = iv k := by have := r.f8; simpa using this
      have q9 : fr1 9 = .ptr n9 ((hp n9).gen + 1) 0 := by have := r.f9; simpa using this
      have qC : hp1 nC = .box 1 [.own nF 2 l.length, .own nT 2 to.length] false := by have := r.ks nC (by decide); simpa [hcs.box] using this
      have qF : hp1 nF = .arr 2 1 3 (rowsF l) false := by have := r.ks nF (by decide); simpa [hcs.from'] using this
      have qT : hp1 nT = .arr 2 1 78 (rowsT to) false := by have := r.ks nT (by decide); simpa [hcs.to'] using this
      have qB : hp1 nB = .box 1 [.sl false 8 (b.ins.map Tac.row), iv b.en, iv b.v, iv b.to, iv b.el] false := by have := r.ks nB (by decide); simpa [kB] using this
      have qR : hp1 nR = .box 1 [.own ⟨0, 4, 1⟩ 1 0, iv 0, iv 0, iv 0, iv 0] false := by have := r.ks nR (by decide); simpa [kR] using this
      have qR1 : hp1 ⟨0, 4, 1⟩ = .arr 1 8 40 [] false := by have := r.ks ⟨0, 4, 1⟩ (by decide); simpa [kR1] using this
      have qI : hp1 nI = .arr 1 8 40 ((insAt (idL n) b.ins k).map Tac.row) false := by have := r.ks nI (by decide); simpa [kI] using this
      have q9' := r.k9
      simp only at q9'
      have hrow : ((insAt (idL n) b.ins k).map Tac.row).set k (Tac.row (fwdTac l b.ins[k])) = (insAt (idL n) b.ins (k + 1)).map Tac.row := by rw [← List.map_set, HI.out]
      have hsets := fwdTac_sets l b.ins[k]
      have hop' := fwdTac_op l b.ins[k]
      have hstep : fwdStep l b.ins[k] = if 0 ≤ b.ins[k].sets then (if b.ins[k].op = 2 ∧ atL l b.ins[k].a ≠ b.ins[k].sets then (fwdForget l b.ins[k].sets.toNat).set b.ins[k].sets.toNat (atL l b.ins[k].a) else fwdForget l b.ins[k].sets.toNat) else l := rfl
      have hfa : b.ins[k].op = 2 → (fwdTac l b.ins[k]).a = atL l b.ins[k].a := fun h => fwdTac_a h
      have hin2 : b.ins[k].op = 2 → 0 ≤ atL l b.ins[k].a ∧ atL l b.ins[k].a < n := fun h => by
        have ha := uses_a HT.out (.inl h)
        exact (atL_get hrng ha.1 ha.2).2
      have hsr := HT.out.2
      generalize (hp n9).gen + 1 = g9 at *
      generalize fwdTac l b.ins[k] = u at *
      clear r HS HI HT hl hg hw hilen
      have HROW := Lib.hid hrow
      have HSETS := Lib.hid hsets
      have HOP := Lib.hid hop'
      have HSTEP := Lib.hid hstep
      have HFA := Lib.hid hfa
      have HIN := Lib.hid hin2
      have HSR := Lib.hid hsr
      clear hrow hsets hop' hstep hfa hin2 hsr hcs kB kR kR1 kI f35 f34 f33 f7 f5 f2 f4
      refine T_seq ?_
      refine T_ord mixed0 E0_law call0_ok (by kernel_rfl) ?_
      repeat' (first
        | ((with_reducible apply Wo_u); (conv => lhs; simp -implicitDefEqProofs [*]) <;> exact rfl)
        | ((with_reducible apply Wo_n); (conv => lhs; simp -implicitDefEqProofs [*]) <;> exact rfl)
        | (with_reducible apply Wo_nil)
        | ((with_reducible apply Wo_gt); (exact rfl); ((conv => lhs; simp -implicitDefEqProofs [*]) <;> exact rfl); (conv => lhs; simp -implicitDefEqProofs [*]) <;> exact rfl)
        | ((with_reducible apply Wo_gf); (exact rfl); ((conv => lhs; simp -implicitDefEqProofs [*]) <;> exact rfl); (exact rfl))
        | ((with_reducible apply Wo_gx); (exact rfl); ((conv => lhs; simp -implicitDefEqProofs [*]) <;> exact rfl))
        | ((with_reducible apply Wo_gsT); (exact rfl); ((conv => lhs; simp -implicitDefEqProofs [*]) <;> exact rfl))
        | ((with_reducible apply Wo_gsF); (exact rfl); ((conv => lhs; simp -implicitDefEqProofs [*]) <;> exact rfl))
        | ((with_reducible apply ex2); (conv => lhs; simp -implicitDefEqProofs [*]) <;> exact rfl)
        | (with_reducible apply W_ss) | (with_reducible apply W_srl) | (with_reducible apply W_rl)
        | ((with_reducible apply W_srdl); kernel_rfl) | ((with_reducible apply W_rdl); kernel_rfl)
        | ((with_reducible apply Wd_u); (conv => lhs; simp -implicitDefEqProofs [*]) <;> exact rfl)
        | ((with_reducible apply Wd_n); (conv => lhs; simp -implicitDefEqProofs [*]) <;> exact rfl)
        | ((with_reducible apply Wd_nil); exact rfl)
        | ((with_reducible apply Wd_gsT); (exact rfl); ((conv => lhs; simp -implicitDefEqProofs [*]) <;> exact rfl))
        | ((with_reducible apply Wd_gsF); (exact rfl); ((conv => lhs; simp -implicitDefEqProofs [*]) <;> exact rfl))
        | ((with_reducible apply ex4); (conv => lhs; simp -implicitDefEqProofs [*]) <;> exact rfl)
        | (with_reducible apply W_sblock) | (with_reducible apply W_block) | (with_reducible apply W_sskip) | (with_reducible apply W_skip) | (with_reducible apply W_sret) | (with_reducible apply W_ret) | (with_reducible apply W_sexit) | (with_reducible apply W_exit)
        | (with_reducible apply thenW_n) | (with_reducible apply thenW_r) | (with_reducible apply thenW_e) | (with_reducible apply inB_n) | (with_reducible apply inB_r) | (with_reducible apply inB_e) | ((with_reducible apply inB_o); rotate_left; exact rfl)
        | ((with_reducible apply EndQ_ret); (conv => lhs; simp -implicitDefEqProofs [*]) <;> exact rfl) | ((with_reducible apply EndQ_normal); (conv => lhs; simp -implicitDefEqProofs [*]) <;> exact rfl)
        | (with_reducible apply thenT_n) | (with_reducible apply thenT_r) | (with_reducible apply thenT_e))
      refine T_seq ?_
      refine T_ord mixed0 E0_law call0_ok (by kernel_rfl) ?_
      repeat' (first
        | ((with_reducible apply Wo_u); (conv => lhs; simp -implicitDefEqProofs [*]) <;> exact rfl)
        | ((with_reducible apply Wo_n); (conv => lhs; simp -implicitDefEqProofs [*]) <;> exact rfl)
        | (with_reducible apply Wo_nil)
        | ((with_reducible apply Wo_gt); (exact rfl); ((conv => lhs; simp -implicitDefEqProofs [*]) <;> exact rfl); (conv => lhs; simp -implicitDefEqProofs [*]) <;> exact rfl)
        | ((with_reducible apply Wo_gf); (exact rfl); ((conv => lhs; simp -implicitDefEqProofs [*]) <;> exact rfl); (exact rfl))
        | ((with_reducible apply Wo_gx); (exact rfl); ((conv => lhs; simp -implicitDefEqProofs [*]) <;> exact rfl))
        | ((with_reducible apply Wo_gsT); (exact rfl); ((conv => lhs; simp -implicitDefEqProofs [*]) <;> exact rfl))
        | ((with_reducible apply Wo_gsF); (exact rfl); ((conv => lhs; simp -implicitDefEqProofs [*]) <;> exact rfl))
        | ((with_reducible apply ex2); (conv => lhs; simp -implicitDefEqProofs [*]) <;> exact rfl)
        | (with_reducible apply W_ss) | (with_reducible apply W_srl) | (with_reducible apply W_rl)
        | ((with_reducible apply W_srdl); kernel_rfl) | ((with_reducible apply W_rdl); kernel_rfl)
        | ((with_reducible apply Wd_u); (conv => lhs; simp -implicitDefEqProofs [*]) <;> exact rfl)
        | ((with_reducible apply Wd_n); (conv => lhs; simp -implicitDefEqProofs [*]) <;> exact rfl)
        | ((with_reducible apply Wd_nil); exact rfl)
        | ((with_reducible apply Wd_gsT); (exact rfl); ((conv => lhs; simp -implicitDefEqProofs [*]) <;> exact rfl))
        | ((with_reducible apply Wd_gsF); (exact rfl); ((conv => lhs; simp -implicitDefEqProofs [*]) <;> exact rfl))
        | ((with_reducible apply ex4); (conv => lhs; simp -implicitDefEqProofs [*]) <;> exact rfl)
        | (with_reducible apply W_sblock) | (with_reducible apply W_block) | (with_reducible apply W_sskip) | (with_reducible apply W_skip) | (with_reducible apply W_sret) | (with_reducible apply W_ret) | (with_reducible apply W_sexit) | (with_reducible apply W_exit)
        | (with_reducible apply thenW_n) | (with_reducible apply thenW_r) | (with_reducible apply thenW_e) | (with_reducible apply inB_n) | (with_reducible apply inB_r) | (with_reducible apply inB_e) | ((with_reducible apply inB_o); rotate_left; exact rfl)
        | ((with_reducible apply EndQ_ret); (conv => lhs; simp -implicitDefEqProofs [*]) <;> exact rfl) | ((with_reducible apply EndQ_normal); (conv => lhs; simp -implicitDefEqProofs [*]) <;> exact rfl)
        | (with_reducible apply thenT_n) | (with_reducible apply thenT_r) | (with_reducible apply thenT_e))
      refine T_seq ?_
      refine T_ord mixed0 E0_law call0_ok (by kernel_rfl) ?_
      repeat' (first
        | ((with_reducible apply Wo_u); (conv => lhs; simp -implicitDefEqProofs [*]) <;> exact rfl)
        | ((with_reducible apply Wo_n); (conv => lhs; simp -implicitDefEqProofs [*]) <;> exact rfl)
        | (with_reducible apply Wo_nil)
        | ((with_reducible apply Wo_gt); (exact rfl); ((conv => lhs; simp -implicitDefEqProofs [*]) <;> exact rfl); (conv => lhs; simp -implicitDefEqProofs [*]) <;> exact rfl)
        | ((with_reducible apply Wo_gf); (exact rfl); ((conv => lhs; simp -implicitDefEqProofs [*]) <;> exact rfl); (exact rfl))
        | ((with_reducible apply Wo_gx); (exact rfl); ((conv => lhs; simp -implicitDefEqProofs [*]) <;> exact rfl))
        | ((with_reducible apply Wo_gsT); (exact rfl); ((conv => lhs; simp -implicitDefEqProofs [*]) <;> exact rfl))
        | ((with_reducible apply Wo_gsF); (exact rfl); ((conv => lhs; simp -implicitDefEqProofs [*]) <;> exact rfl))
        | ((with_reducible apply ex2); (conv => lhs; simp -implicitDefEqProofs [*]) <;> exact rfl)
        | (with_reducible apply W_ss) | (with_reducible apply W_srl) | (with_reducible apply W_rl)
        | ((with_reducible apply W_srdl); kernel_rfl) | ((with_reducible apply W_rdl); kernel_rfl)
        | ((with_reducible apply Wd_u); (conv => lhs; simp -implicitDefEqProofs [*]) <;> exact rfl)
        | ((with_reducible apply Wd_n); (conv => lhs; simp -implicitDefEqProofs [*]) <;> exact rfl)
        | ((with_reducible apply Wd_nil); exact rfl)
        | ((with_reducible apply Wd_gsT); (exact rfl); ((conv => lhs; simp -implicitDefEqProofs [*]) <;> exact rfl))
        | ((with_reducible apply Wd_gsF); (exact rfl); ((conv => lhs; simp -implicitDefEqProofs [*]) <;> exact rfl))
        | ((with_reducible apply ex4); (conv => lhs; simp -implicitDefEqProofs [*]) <;> exact rfl)
        | (with_reducible apply W_sblock) | (with_reducible apply W_block) | (with_reducible apply W_sskip) | (with_reducible apply W_skip) | (with_reducible apply W_sret) | (with_reducible apply W_ret) | (with_reducible apply W_sexit) | (with_reducible apply W_exit)
        | (with_reducible apply thenW_n) | (with_reducible apply thenW_r) | (with_reducible apply thenW_e) | (with_reducible apply inB_n) | (with_reducible apply inB_r) | (with_reducible apply inB_e) | ((with_reducible apply inB_o); rotate_left; exact rfl)
        | ((with_reducible apply EndQ_ret); (conv => lhs; simp -implicitDefEqProofs [*]) <;> exact rfl) | ((with_reducible apply EndQ_normal); (conv => lhs; simp -implicitDefEqProofs [*]) <;> exact rfl)
        | (with_reducible apply thenT_n) | (with_reducible apply thenT_r) | (with_reducible apply thenT_e))
      have hrowI : ((insAt (idL n) b.ins k).map Tac.row).set k [iv u.op, iv u.d, iv u.a, iv u.b, iv u.k, iv u.base, iv u.size, .sc (.int .u32 u.n)] = (insAt (idL n) b.ins (k + 1)).map Tac.row := HROW.out
      by_cases hd : 0 ≤ setsZ u.op u.d
      · have hds : setsZ u.op u.d = b.ins[k].sets := HSETS.out
        have hlt' := HSR.out (by rw [← hds]; exact hd)
        rw [← hds] at hlt'
        obtain ⟨dn, hdn⟩ : ∃ dn : Nat, setsZ u.op u.d = dn := ⟨(setsZ u.op u.d).toNat, by omega⟩
        have hdl : dn < l.length := by rw [hrng.1]; omega
        have hstep := HSTEP.out
        rw [← hds, hdn] at hstep
        rw [if_pos (by omega)] at hstep
        simp only [Int.toNat_natCast] at hstep
        have HST := Lib.hid hstep
        clear hstep hds hlt' hd HSETS HSR HSTEP
        refine T_ct (by simp [hdn]) ?_
        refine T_seq (T_region ?_)
        repeat' (first
          | ((with_reducible apply To_u E0_law call0_ok); ((conv => lhs; simp -implicitDefEqProofs [*]) <;> exact rfl); (decide))
          | ((with_reducible apply To_n E0_law call0_ok); ((conv => lhs; simp -implicitDefEqProofs [*]) <;> exact rfl))
          | (with_reducible apply To_nil) | (with_reducible apply thenT_n) | (with_reducible apply thenT_r) | (with_reducible apply thenT_e))
        refine To_call (Qc := fun hp' M' => ∃ to', CS hp' 1 2 2 (fwdForget l dn) to' ∧ CpOk M' (fwdForget l dn) to' ∧ SameBut hp' _) (by decide) okFn_31 Try.func31 rfl bodyOk_31 rfl rfl (fun N' B' hN => by
          subst hN
          exact t31 rfl K B' _ _ _ 1 2 2 l to dn (by simp [q5]) (by simp [hdn]) ⟨by simp [qC], by simp [qF], by simp [qT]⟩ hcp hdl) ?_
        rintro hp2 M2 ⟨to2, hcs2, hcp2, hsb⟩
        refine To_nil (thenT_n ?_)
        have p9 : hp2 n9 = .box g9 [iv u.op, iv u.d, iv u.a, iv u.b, iv u.k, iv u.base, iv u.size, .sc (.int .u32 u.n)] false := by rw [hsb n9 (by decide) (by decide)]; simp [q9']
        have pB : hp2 nB = .box 1 [.sl false 8 (b.ins.map Tac.row), iv b.en, iv b.v, iv b.to, iv b.el] false := by rw [hsb nB (by decide) (by decide)]; simp [qB]
        have pR : hp2 nR = .box 1 [.own ⟨0, 4, 1⟩ 1 0, iv 0, iv 0, iv 0, iv 0] false := by rw [hsb nR (by decide) (by decide)]; simp [qR]
        have pR1 : hp2 ⟨0, 4, 1⟩ = .arr 1 8 40 [] false := by rw [hsb ⟨0, 4, 1⟩ (by decide) (by decide)]; simp [qR1]
        have pI : hp2 nI = .arr 1 8 40 ((insAt (idL n) b.ins (k + 1)).map Tac.row) false := by rw [hsb nI (by decide) (by decide)]; simp [hrowI]
        have hget : (fwdForget l dn)[dn]? = some (dn : Int) := by rw [forget_get, if_pos ⟨rfl, hdl⟩]
        clear hsb qC qF qT qB qR qR1 qI q9' hrowI HROW hcp
        have hcC := hcs2.box
        have hcF := hcs2.from'
        have hcT := hcs2.to'
        by_cases hop2 : u.op = 2
        · have hb2 : b.ins[k].op = 2 := by rw [← HOP.out]; exact hop2
          have hua := HFA.out hb2
          have hin2 := HIN.out hb2
          rw [← hua] at hin2
          have hst := HST.out
          rw [hb2, ← hua] at hst
          simp only [true_and] at hst
          obtain ⟨an, han⟩ : ∃ an : Nat, u.a = an := ⟨u.a.toNat, by omega⟩
          have hanl : an < n := by omega
          rw [han] at hst
          clear hua hin2 HST HOP HFA HIN
          rw [hop2] at hdn
          by_cases hne : (an : Int) = dn
          · rw [if_neg (by simpa using hne)] at hst
            have HS2 := Lib.hid hst
            clear hst
            refine T_seq ?_
            refine T_ord mixed0 E0_law call0_ok (by kernel_rfl) ?_
            repeat' (first
              | ((with_reducible apply Wo_u); (conv => lhs; simp -implicitDefEqProofs [*]) <;> exact rfl)
              | ((with_reducible apply Wo_n); (conv => lhs; simp -implicitDefEqProofs [*]) <;> exact rfl)
              | (with_reducible apply Wo_nil)
              | ((with_reducible apply Wo_gt); (exact rfl); ((conv => lhs; simp -implicitDefEqProofs [*]) <;> exact rfl); (conv => lhs; simp -implicitDefEqProofs [*]) <;> exact rfl)
              | ((with_reducible apply Wo_gf); (exact rfl); ((conv => lhs; simp -implicitDefEqProofs [*]) <;> exact rfl); (exact rfl))
              | ((with_reducible apply Wo_gx); (exact rfl); ((conv => lhs; simp -implicitDefEqProofs [*]) <;> exact rfl))
              | ((with_reducible apply Wo_gsT); (exact rfl); ((conv => lhs; simp -implicitDefEqProofs [*]) <;> exact rfl))
              | ((with_reducible apply Wo_gsF); (exact rfl); ((conv => lhs; simp -implicitDefEqProofs [*]) <;> exact rfl))
              | ((with_reducible apply ex2); (conv => lhs; simp -implicitDefEqProofs [*]) <;> exact rfl)
              | (with_reducible apply W_ss) | (with_reducible apply W_srl) | (with_reducible apply W_rl)
              | ((with_reducible apply W_srdl); kernel_rfl) | ((with_reducible apply W_rdl); kernel_rfl)
              | ((with_reducible apply Wd_u); (conv => lhs; simp -implicitDefEqProofs [*]) <;> exact rfl)
              | ((with_reducible apply Wd_n); (conv => lhs; simp -implicitDefEqProofs [*]) <;> exact rfl)
              | ((with_reducible apply Wd_nil); exact rfl)
              | ((with_reducible apply Wd_gsT); (exact rfl); ((conv => lhs; simp -implicitDefEqProofs [*]) <;> exact rfl))
              | ((with_reducible apply Wd_gsF); (exact rfl); ((conv => lhs; simp -implicitDefEqProofs [*]) <;> exact rfl))
              | ((with_reducible apply ex4); (conv => lhs; simp -implicitDefEqProofs [*]) <;> exact rfl)
              | (with_reducible apply W_sblock) | (with_reducible apply W_block) | (with_reducible apply W_sskip) | (with_reducible apply W_skip) | (with_reducible apply W_sret) | (with_reducible apply W_ret) | (with_reducible apply W_sexit) | (with_reducible apply W_exit)
              | (with_reducible apply thenW_n) | (with_reducible apply thenW_r) | (with_reducible apply thenW_e) | (with_reducible apply inB_n) | (with_reducible apply inB_r) | (with_reducible apply inB_e) | ((with_reducible apply inB_o); rotate_left; exact rfl)
              | ((with_reducible apply EndQ_ret); (conv => lhs; simp -implicitDefEqProofs [*]) <;> exact rfl) | ((with_reducible apply EndQ_normal); (conv => lhs; simp -implicitDefEqProofs [*]) <;> exact rfl)
              | (with_reducible apply thenT_n) | (with_reducible apply thenT_r) | (with_reducible apply thenT_e))
            refine T_cf (by simp [hne]) (T_skip ?_)
            repeat (first | (with_reducible apply thenT_e) | (with_reducible apply thenT_r) | (with_reducible apply inT_e) | (with_reducible apply inT_n) | (with_reducible apply thenT_n))
            refine ⟨rfl, to2, ?_⟩
            rw [HS2.out]
            exact ⟨by simp [*], by simp [*], by simp [*], by simp [*], by simp [*], by simp [*], by simp [*], ⟨hcC, hcF, hcT⟩, hcp2, pB, pR, pR1, pI⟩
          · rw [if_pos (by simpa using hne)] at hst
            have HS2 := Lib.hid hst
            clear hst
            refine T_seq ?_
            refine T_ord mixed0 E0_law call0_ok (by kernel_rfl) ?_
            repeat' (first
              | ((with_reducible apply Wo_u); (conv => lhs; simp -implicitDefEqProofs [*]) <;> exact rfl)
              | ((with_reducible apply Wo_n); (conv => lhs; simp -implicitDefEqProofs [*]) <;> exact rfl)
              | (with_reducible apply Wo_nil)
              | ((with_reducible apply Wo_gt); (exact rfl); ((conv => lhs; simp -implicitDefEqProofs [*]) <;> exact rfl); (conv => lhs; simp -implicitDefEqProofs [*]) <;> exact rfl)
              | ((with_reducible apply Wo_gf); (exact rfl); ((conv => lhs; simp -implicitDefEqProofs [*]) <;> exact rfl); (exact rfl))
              | ((with_reducible apply Wo_gx); (exact rfl); ((conv => lhs; simp -implicitDefEqProofs [*]) <;> exact rfl))
              | ((with_reducible apply Wo_gsT); (exact rfl); ((conv => lhs; simp -implicitDefEqProofs [*]) <;> exact rfl))
              | ((with_reducible apply Wo_gsF); (exact rfl); ((conv => lhs; simp -implicitDefEqProofs [*]) <;> exact rfl))
              | ((with_reducible apply ex2); (conv => lhs; simp -implicitDefEqProofs [*]) <;> exact rfl)
              | (with_reducible apply W_ss) | (with_reducible apply W_srl) | (with_reducible apply W_rl)
              | ((with_reducible apply W_srdl); kernel_rfl) | ((with_reducible apply W_rdl); kernel_rfl)
              | ((with_reducible apply Wd_u); (conv => lhs; simp -implicitDefEqProofs [*]) <;> exact rfl)
              | ((with_reducible apply Wd_n); (conv => lhs; simp -implicitDefEqProofs [*]) <;> exact rfl)
              | ((with_reducible apply Wd_nil); exact rfl)
              | ((with_reducible apply Wd_gsT); (exact rfl); ((conv => lhs; simp -implicitDefEqProofs [*]) <;> exact rfl))
              | ((with_reducible apply Wd_gsF); (exact rfl); ((conv => lhs; simp -implicitDefEqProofs [*]) <;> exact rfl))
              | ((with_reducible apply ex4); (conv => lhs; simp -implicitDefEqProofs [*]) <;> exact rfl)
              | (with_reducible apply W_sblock) | (with_reducible apply W_block) | (with_reducible apply W_sskip) | (with_reducible apply W_skip) | (with_reducible apply W_sret) | (with_reducible apply W_ret) | (with_reducible apply W_sexit) | (with_reducible apply W_exit)
              | (with_reducible apply thenW_n) | (with_reducible apply thenW_r) | (with_reducible apply thenW_e) | (with_reducible apply inB_n) | (with_reducible apply inB_r) | (with_reducible apply inB_e) | ((with_reducible apply inB_o); rotate_left; exact rfl)
              | ((with_reducible apply EndQ_ret); (conv => lhs; simp -implicitDefEqProofs [*]) <;> exact rfl) | ((with_reducible apply EndQ_normal); (conv => lhs; simp -implicitDefEqProofs [*]) <;> exact rfl)
              | (with_reducible apply thenT_n) | (with_reducible apply thenT_r) | (with_reducible apply thenT_e))
            refine T_ct (by simp [hne]) ?_
            refine T_region ?_
            repeat' (first
              | ((with_reducible apply To_u E0_law call0_ok); ((conv => lhs; simp -implicitDefEqProofs [*]) <;> exact rfl); (decide))
              | ((with_reducible apply To_n E0_law call0_ok); ((conv => lhs; simp -implicitDefEqProofs [*]) <;> exact rfl))
              | (with_reducible apply To_nil) | (with_reducible apply thenT_n) | (with_reducible apply thenT_r) | (with_reducible apply thenT_e))
            refine To_call (Qc := fun hp' M' => ∃ to', CS hp' 1 2 2 ((fwdForget l dn).set dn an) to' ∧ CpOk M' ((fwdForget l dn).set dn an) to' ∧ SameBut hp' hp2) (by decide) okFn_32 Try.func32 rfl bodyOk_32 rfl rfl (fun N' B' hN => by
              subst hN
              exact t32 rfl K B' _ _ _ 1 2 2 (fwdForget l dn) to2 dn an (by simp [q5]) (by simp [hdn]) (by simp [han]) hcs2 hcp2 hget (fun e => hne (by rw [e])) (by rw [forget_len, hrng.1]; exact hanl)) ?_
            rintro hp3 M3 ⟨to3, hcs3, hcp3, hsb3⟩
            refine To_nil ?_
            repeat (first | (with_reducible apply thenT_e) | (with_reducible apply thenT_r) | (with_reducible apply inT_e) | (with_reducible apply inT_n) | (with_reducible apply thenT_n))
            refine ⟨rfl, to3, ?_⟩
            rw [HS2.out]
            exact ⟨by simp [*], by simp [*], by simp [*], by simp [*], by simp [*], by simp [*], by simp [*], hcs3, hcp3, (hsb3 nB (by decide) (by decide)).trans pB, (hsb3 nR (by decide) (by decide)).trans pR, (hsb3 ⟨0, 4, 1⟩ (by decide) (by decide)).trans pR1, (hsb3 nI (by decide) (by decide)).trans pI⟩
        · have hst := HST.out
          rw [if_neg (by rw [← HOP.out]; exact fun h => hop2 h.1)] at hst
          have HS2 := Lib.hid hst
          have e2 : (u.op == 2) = false := by simpa using hop2
          clear hst HST HOP HFA HIN
          refine T_seq ?_
          refine T_ord mixed0 E0_law call0_ok (by kernel_rfl) ?_
          repeat' (first
            | ((with_reducible apply Wo_u); (conv => lhs; simp -implicitDefEqProofs [*]) <;> exact rfl)
            | ((with_reducible apply Wo_n); (conv => lhs; simp -implicitDefEqProofs [*]) <;> exact rfl)
            | (with_reducible apply Wo_nil)
            | ((with_reducible apply Wo_gt); (exact rfl); ((conv => lhs; simp -implicitDefEqProofs [*]) <;> exact rfl); (conv => lhs; simp -implicitDefEqProofs [*]) <;> exact rfl)
            | ((with_reducible apply Wo_gf); (exact rfl); ((conv => lhs; simp -implicitDefEqProofs [*]) <;> exact rfl); (exact rfl))
            | ((with_reducible apply Wo_gx); (exact rfl); ((conv => lhs; simp -implicitDefEqProofs [*]) <;> exact rfl))
            | ((with_reducible apply Wo_gsT); (exact rfl); ((conv => lhs; simp -implicitDefEqProofs [*]) <;> exact rfl))
            | ((with_reducible apply Wo_gsF); (exact rfl); ((conv => lhs; simp -implicitDefEqProofs [*]) <;> exact rfl))
            | ((with_reducible apply ex2); (conv => lhs; simp -implicitDefEqProofs [*]) <;> exact rfl)
            | (with_reducible apply W_ss) | (with_reducible apply W_srl) | (with_reducible apply W_rl)
            | ((with_reducible apply W_srdl); kernel_rfl) | ((with_reducible apply W_rdl); kernel_rfl)
            | ((with_reducible apply Wd_u); (conv => lhs; simp -implicitDefEqProofs [*]) <;> exact rfl)
            | ((with_reducible apply Wd_n); (conv => lhs; simp -implicitDefEqProofs [*]) <;> exact rfl)
            | ((with_reducible apply Wd_nil); exact rfl)
            | ((with_reducible apply Wd_gsT); (exact rfl); ((conv => lhs; simp -implicitDefEqProofs [*]) <;> exact rfl))
            | ((with_reducible apply Wd_gsF); (exact rfl); ((conv => lhs; simp -implicitDefEqProofs [*]) <;> exact rfl))
            | ((with_reducible apply ex4); (conv => lhs; simp -implicitDefEqProofs [*]) <;> exact rfl)
            | (with_reducible apply W_sblock) | (with_reducible apply W_block) | (with_reducible apply W_sskip) | (with_reducible apply W_skip) | (with_reducible apply W_sret) | (with_reducible apply W_ret) | (with_reducible apply W_sexit) | (with_reducible apply W_exit)
            | (with_reducible apply thenW_n) | (with_reducible apply thenW_r) | (with_reducible apply thenW_e) | (with_reducible apply inB_n) | (with_reducible apply inB_r) | (with_reducible apply inB_e) | ((with_reducible apply inB_o); rotate_left; exact rfl)
            | ((with_reducible apply EndQ_ret); (conv => lhs; simp -implicitDefEqProofs [*]) <;> exact rfl) | ((with_reducible apply EndQ_normal); (conv => lhs; simp -implicitDefEqProofs [*]) <;> exact rfl)
            | (with_reducible apply thenT_n) | (with_reducible apply thenT_r) | (with_reducible apply thenT_e))
          refine T_cf (by simp) (T_skip ?_)
          repeat (first | (with_reducible apply thenT_e) | (with_reducible apply thenT_r) | (with_reducible apply inT_e) | (with_reducible apply inT_n) | (with_reducible apply thenT_n))
          refine ⟨rfl, to2, ?_⟩
          rw [HS2.out]
          exact ⟨by simp [*], by simp [*], by simp [*], by simp [*], by simp [*], by simp [*], by simp [*], ⟨hcC, hcF, hcT⟩, hcp2, pB, pR, pR1, pI⟩
      · have hst := HSTEP.out
        rw [if_neg (by rw [← HSETS.out]; exact hd)] at hst
        refine T_cf (by simp [hd]) (T_skip ?_)
        repeat (first | (with_reducible apply thenT_e) | (with_reducible apply thenT_r) | (with_reducible apply inT_e) | (with_reducible apply inT_n) | (with_reducible apply thenT_n))
        refine ⟨rfl, to, ?_⟩
        rw [hst]
        exact ⟨by simp [*], by simp [*], by simp [*], by simp [*], by simp [*], by simp [*], by simp [*], ⟨by simp [*], by simp [*], by simp [*]⟩, hcp, by simp [*], by simp [*], by simp [*], by simp [*]⟩
    · rintro e ⟨fr1, hp1⟩ M3 ⟨rfl, to3, r⟩
      refine thenT_n ?_
      obtain ⟨r35, r34, r33, r7, r5, r2, r4, rcs, rcp, rB, rR, rR1, rI⟩ := r
      simp only at r35 r34 r33 r7 r5 r2 r4 rcs rB rR rR1 rI
      rw [← HS.out] at rcs rcp
      refine T_ord mixed0 E0_law call0_ok (by kernel_rfl) ?_
      repeat' (first
        | ((with_reducible apply Wo_u); (conv => lhs; simp -implicitDefEqProofs [*]) <;> exact rfl)
        | ((with_reducible apply Wo_n); (conv => lhs; simp -implicitDefEqProofs [*]) <;> exact rfl)
        | (with_reducible apply Wo_nil)
        | ((with_reducible apply Wo_gt); (exact rfl); ((conv => lhs; simp -implicitDefEqProofs [*]) <;> exact rfl); (conv => lhs; simp -implicitDefEqProofs [*]) <;> exact rfl)
        | ((with_reducible apply Wo_gf); (exact rfl); ((conv => lhs; simp -implicitDefEqProofs [*]) <;> exact rfl); (exact rfl))
        | ((with_reducible apply Wo_gx); (exact rfl); ((conv => lhs; simp -implicitDefEqProofs [*]) <;> exact rfl))
        | ((with_reducible apply Wo_gsT); (exact rfl); ((conv => lhs; simp -implicitDefEqProofs [*]) <;> exact rfl))
        | ((with_reducible apply Wo_gsF); (exact rfl); ((conv => lhs; simp -implicitDefEqProofs [*]) <;> exact rfl))
        | ((with_reducible apply ex2); (conv => lhs; simp -implicitDefEqProofs [*]) <;> exact rfl)
        | (with_reducible apply W_ss) | (with_reducible apply W_srl) | (with_reducible apply W_rl)
        | ((with_reducible apply W_srdl); kernel_rfl) | ((with_reducible apply W_rdl); kernel_rfl)
        | ((with_reducible apply Wd_u); (conv => lhs; simp -implicitDefEqProofs [*]) <;> exact rfl)
        | ((with_reducible apply Wd_n); (conv => lhs; simp -implicitDefEqProofs [*]) <;> exact rfl)
        | ((with_reducible apply Wd_nil); exact rfl)
        | ((with_reducible apply Wd_gsT); (exact rfl); ((conv => lhs; simp -implicitDefEqProofs [*]) <;> exact rfl))
        | ((with_reducible apply Wd_gsF); (exact rfl); ((conv => lhs; simp -implicitDefEqProofs [*]) <;> exact rfl))
        | ((with_reducible apply ex4); (conv => lhs; simp -implicitDefEqProofs [*]) <;> exact rfl)
        | (with_reducible apply W_sblock) | (with_reducible apply W_block) | (with_reducible apply W_sskip) | (with_reducible apply W_skip) | (with_reducible apply W_sret) | (with_reducible apply W_ret) | (with_reducible apply W_sexit) | (with_reducible apply W_exit)
        | (with_reducible apply thenW_n) | (with_reducible apply thenW_r) | (with_reducible apply thenW_e) | (with_reducible apply inB_n) | (with_reducible apply inB_r) | (with_reducible apply inB_e) | ((with_reducible apply inB_o); rotate_left; exact rfl)
        | ((with_reducible apply EndQ_ret); (conv => lhs; simp -implicitDefEqProofs [*]) <;> exact rfl) | ((with_reducible apply EndQ_normal); (conv => lhs; simp -implicitDefEqProofs [*]) <;> exact rfl)
        | (with_reducible apply thenT_n) | (with_reducible apply thenT_r) | (with_reducible apply thenT_e))
      exact ⟨b.ins.length - (k + 1), by omega, k + 1, to3, rfl, hlt, by simp, by simp [*], by simp [*], by simp [*], by simp [*], by simp [*], by simp [*], rcs, rcp, by simp [*], by simp [*], by simp [*], by simp [*]⟩
  · obtain rfl : k = b.ins.length := by omega
    rw [insAt_all] at kI
    have hol : (outs (idL n) b.ins).length = b.ins.length := by simp [outs]
    have hrn := stN_rng (idL_rng n) hok.ins b.ins.length (Nat.le_refl _)
    have hvok := hok.v
    generalize hl : stN (idL n) b.ins b.ins.length = l at *
    have hB : (fwdBlk n b).ins = outs (idL n) b.ins := by simp [fwdBlk]
    have hV : (fwdBlk n b).v = if b.en = 2 then atL l b.v else b.v := by simp [fwdBlk, hl]
    rw [hB, hV]
    clear hB hV hok hl
    have hcC := hcs.box
    have hcF := hcs.from'
    rw [hrn.1] at hcC
    have hon : ¬ b.ins.length < b.ins.length := by omega
    refine T_seq ?_
    refine T_ord mixed0 E0_law call0_ok (by kernel_rfl) ?_
    repeat' (first
      | ((with_reducible apply Wo_u); (conv => lhs; simp -implicitDefEqProofs [*]) <;> exact rfl)
      | ((with_reducible apply Wo_n); (conv => lhs; simp -implicitDefEqProofs [*]) <;> exact rfl)
      | (with_reducible apply Wo_nil)
      | ((with_reducible apply Wo_gt); (exact rfl); ((conv => lhs; simp -implicitDefEqProofs [*]) <;> exact rfl); (conv => lhs; simp -implicitDefEqProofs [*]) <;> exact rfl)
      | ((with_reducible apply Wo_gf); (exact rfl); ((conv => lhs; simp -implicitDefEqProofs [*]) <;> exact rfl); (exact rfl))
      | ((with_reducible apply Wo_gx); (exact rfl); ((conv => lhs; simp -implicitDefEqProofs [*]) <;> exact rfl))
      | ((with_reducible apply Wo_gsT); (exact rfl); ((conv => lhs; simp -implicitDefEqProofs [*]) <;> exact rfl))
      | ((with_reducible apply Wo_gsF); (exact rfl); ((conv => lhs; simp -implicitDefEqProofs [*]) <;> exact rfl))
      | ((with_reducible apply ex2); (conv => lhs; simp -implicitDefEqProofs [*]) <;> exact rfl)
      | (with_reducible apply W_ss) | (with_reducible apply W_srl) | (with_reducible apply W_rl)
      | ((with_reducible apply W_srdl); kernel_rfl) | ((with_reducible apply W_rdl); kernel_rfl)
      | ((with_reducible apply Wd_u); (conv => lhs; simp -implicitDefEqProofs [*]) <;> exact rfl)
      | ((with_reducible apply Wd_n); (conv => lhs; simp -implicitDefEqProofs [*]) <;> exact rfl)
      | ((with_reducible apply Wd_nil); exact rfl)
      | ((with_reducible apply Wd_gsT); (exact rfl); ((conv => lhs; simp -implicitDefEqProofs [*]) <;> exact rfl))
      | ((with_reducible apply Wd_gsF); (exact rfl); ((conv => lhs; simp -implicitDefEqProofs [*]) <;> exact rfl))
      | ((with_reducible apply ex4); (conv => lhs; simp -implicitDefEqProofs [*]) <;> exact rfl)
      | (with_reducible apply W_sblock) | (with_reducible apply W_block) | (with_reducible apply W_sskip) | (with_reducible apply W_skip) | (with_reducible apply W_sret) | (with_reducible apply W_ret) | (with_reducible apply W_sexit) | (with_reducible apply W_exit)
      | (with_reducible apply thenW_n) | (with_reducible apply thenW_r) | (with_reducible apply thenW_e) | (with_reducible apply inB_n) | (with_reducible apply inB_r) | (with_reducible apply inB_e) | ((with_reducible apply inB_o); rotate_left; exact rfl)
      | ((with_reducible apply EndQ_ret); (conv => lhs; simp -implicitDefEqProofs [*]) <;> exact rfl) | ((with_reducible apply EndQ_normal); (conv => lhs; simp -implicitDefEqProofs [*]) <;> exact rfl)
      | (with_reducible apply thenT_n) | (with_reducible apply thenT_r) | (with_reducible apply thenT_e))
    refine T_seq (T_cf (by simp) (T_exit ?_))
    repeat (first | (with_reducible apply thenT_e) | (with_reducible apply thenT_r) | (with_reducible apply inT_e) | (with_reducible apply inT_n) | (with_reducible apply thenT_n))
    by_cases hen : b.en = 2
    · have hv := hvok hen
      have hat := atL_get hrn hv.1 hv.2
      have hga : (rowsF l)[b.v.toNat]? = some [iv (atL l b.v)] := by rw [rowsF_get, hat.1]; rfl
      have hv0 := hv.1
      have hvn : b.v.toNat < n := by omega
      clear hat hv hvok
      refine T_ord mixed0 E0_law call0_ok (by kernel_rfl) ?_
      repeat' (first
        | ((with_reducible apply Wo_u); (conv => lhs; simp -implicitDefEqProofs [*]) <;> exact rfl)
        | ((with_reducible apply Wo_n); (conv => lhs; simp -implicitDefEqProofs [*]) <;> exact rfl)
        | (with_reducible apply Wo_nil)
        | ((with_reducible apply Wo_gt); (exact rfl); ((conv => lhs; simp -implicitDefEqProofs [*]) <;> exact rfl); (conv => lhs; simp -implicitDefEqProofs [*]) <;> exact rfl)
        | ((with_reducible apply Wo_gf); (exact rfl); ((conv => lhs; simp -implicitDefEqProofs [*]) <;> exact rfl); (exact rfl))
        | ((with_reducible apply Wo_gx); (exact rfl); ((conv => lhs; simp -implicitDefEqProofs [*]) <;> exact rfl))
        | ((with_reducible apply Wo_gsT); (exact rfl); ((conv => lhs; simp -implicitDefEqProofs [*]) <;> exact rfl))
        | ((with_reducible apply Wo_gsF); (exact rfl); ((conv => lhs; simp -implicitDefEqProofs [*]) <;> exact rfl))
        | ((with_reducible apply ex2); (conv => lhs; simp -implicitDefEqProofs [*]) <;> exact rfl)
        | (with_reducible apply W_ss) | (with_reducible apply W_srl) | (with_reducible apply W_rl)
        | ((with_reducible apply W_sc); (conv => lhs; simp -implicitDefEqProofs [*]) <;> exact rfl)
        | ((with_reducible apply W_c); (conv => lhs; simp -implicitDefEqProofs [*]) <;> exact rfl)
        | ((with_reducible apply W_srdl); kernel_rfl) | ((with_reducible apply W_rdl); kernel_rfl)
        | ((with_reducible apply Wd_u); (conv => lhs; simp -implicitDefEqProofs [*]) <;> exact rfl)
        | ((with_reducible apply Wd_n); (conv => lhs; simp -implicitDefEqProofs [*]) <;> exact rfl)
        | ((with_reducible apply Wd_nil); exact rfl)
        | ((with_reducible apply Wd_gsT); (exact rfl); ((conv => lhs; simp -implicitDefEqProofs [*]) <;> exact rfl))
        | ((with_reducible apply Wd_gsF); (exact rfl); ((conv => lhs; simp -implicitDefEqProofs [*]) <;> exact rfl))
        | ((with_reducible apply ex4); (conv => lhs; simp -implicitDefEqProofs [*]) <;> exact rfl)
        | (with_reducible apply W_sblock) | (with_reducible apply W_block) | (with_reducible apply W_sskip) | (with_reducible apply W_skip) | (with_reducible apply W_sret) | (with_reducible apply W_ret) | (with_reducible apply W_sexit) | (with_reducible apply W_exit)
        | (with_reducible apply thenW_n) | (with_reducible apply thenW_r) | (with_reducible apply thenW_e) | (with_reducible apply inB_n) | (with_reducible apply inB_r) | (with_reducible apply inB_e) | ((with_reducible apply inB_o); rotate_left; exact rfl)
        | ((with_reducible apply EndQ_ret); (conv => lhs; simp -implicitDefEqProofs [*]) <;> exact rfl) | ((with_reducible apply EndQ_normal); (conv => lhs; simp -implicitDefEqProofs [*]) <;> exact rfl)
        | (intro h h'; try simp [*, -h] at h'))
      all_goals refine ⟨fun i => nofun, ?_⟩
      all_goals rw [show Try.f22.resultTypes.toList = [37] from rfl, show Try.f22.results.toList = [ResultVar.cell 4 37] from rfl]
      all_goals simp [*]
    · have hen2 : (b.en == 2) = false := by simpa using hen
      refine T_ord mixed0 E0_law call0_ok (by kernel_rfl) ?_
      repeat' (first
        | ((with_reducible apply Wo_u); (conv => lhs; simp -implicitDefEqProofs [*]) <;> exact rfl)
        | ((with_reducible apply Wo_n); (conv => lhs; simp -implicitDefEqProofs [*]) <;> exact rfl)
        | (with_reducible apply Wo_nil)
        | ((with_reducible apply Wo_gt); (exact rfl); ((conv => lhs; simp -implicitDefEqProofs [*]) <;> exact rfl); (conv => lhs; simp -implicitDefEqProofs [*]) <;> exact rfl)
        | ((with_reducible apply Wo_gf); (exact rfl); ((conv => lhs; simp -implicitDefEqProofs [*]) <;> exact rfl); (exact rfl))
        | ((with_reducible apply Wo_gx); (exact rfl); ((conv => lhs; simp -implicitDefEqProofs [*]) <;> exact rfl))
        | ((with_reducible apply Wo_gsT); (exact rfl); ((conv => lhs; simp -implicitDefEqProofs [*]) <;> exact rfl))
        | ((with_reducible apply Wo_gsF); (exact rfl); ((conv => lhs; simp -implicitDefEqProofs [*]) <;> exact rfl))
        | ((with_reducible apply ex2); (conv => lhs; simp -implicitDefEqProofs [*]) <;> exact rfl)
        | (with_reducible apply W_ss) | (with_reducible apply W_srl) | (with_reducible apply W_rl)
        | ((with_reducible apply W_sc); (conv => lhs; simp -implicitDefEqProofs [*]) <;> exact rfl)
        | ((with_reducible apply W_c); (conv => lhs; simp -implicitDefEqProofs [*]) <;> exact rfl)
        | ((with_reducible apply W_srdl); kernel_rfl) | ((with_reducible apply W_rdl); kernel_rfl)
        | ((with_reducible apply Wd_u); (conv => lhs; simp -implicitDefEqProofs [*]) <;> exact rfl)
        | ((with_reducible apply Wd_n); (conv => lhs; simp -implicitDefEqProofs [*]) <;> exact rfl)
        | ((with_reducible apply Wd_nil); exact rfl)
        | ((with_reducible apply Wd_gsT); (exact rfl); ((conv => lhs; simp -implicitDefEqProofs [*]) <;> exact rfl))
        | ((with_reducible apply Wd_gsF); (exact rfl); ((conv => lhs; simp -implicitDefEqProofs [*]) <;> exact rfl))
        | ((with_reducible apply ex4); (conv => lhs; simp -implicitDefEqProofs [*]) <;> exact rfl)
        | (with_reducible apply W_sblock) | (with_reducible apply W_block) | (with_reducible apply W_sskip) | (with_reducible apply W_skip) | (with_reducible apply W_sret) | (with_reducible apply W_ret) | (with_reducible apply W_sexit) | (with_reducible apply W_exit)
        | (with_reducible apply thenW_n) | (with_reducible apply thenW_r) | (with_reducible apply thenW_e) | (with_reducible apply inB_n) | (with_reducible apply inB_r) | (with_reducible apply inB_e) | ((with_reducible apply inB_o); rotate_left; exact rfl)
        | ((with_reducible apply EndQ_ret); (conv => lhs; simp -implicitDefEqProofs [*]) <;> exact rfl) | ((with_reducible apply EndQ_normal); (conv => lhs; simp -implicitDefEqProofs [*]) <;> exact rfl)
        | (intro h h'; try simp [*, -h] at h'))
      all_goals refine ⟨fun i => nofun, ?_⟩
      all_goals rw [show Try.f22.resultTypes.toList = [37] from rfl, show Try.f22.results.toList = [ResultVar.cell 4 37] from rfl]
      all_goals simp [*]
end Go.Proofs.Ytmfhdhiaokejdaa
