/- Law 31: functions, walked. -/
import Derived.Test.YtmfhdhiaokejdaaK5
namespace Go.Proofs.Ytmfhdhiaokejdaa
open Go Go.Ab
set_option linter.unusedSimpArgs false
set_option linter.unusedVariables false
@[simp] theorem E31_hp (f : Nat) : E31.hp f = (f == 35 || f == 29 || f == 37 || f == 38) := rfl
@[simp] theorem E31_eq (f : Nat) : E31.eq f = (f == 40 || f == 47) := rfl
@[simp] theorem wrap_1 : IntKind.i64.wrap 1 = 1 := by decide +kernel
@[simp] theorem wrap_2 : IntKind.i64.wrap 2 = 2 := by decide +kernel
@[simp] theorem wrap_0 : IntKind.i64.wrap 0 = 0 := by decide +kernel
theorem wrapN {k : Nat} (h : k < 9223372036854775807) : IntKind.i64.wrap ((k : Int) + 1) = (k : Int) + 1 := wrap64 (by omega) (by omega)

set_option maxHeartbeats 1000000 in
@[simp] theorem d39 (n : Int)  : (lim Try.prog E31 X31).dat 39 [iv n] = some [bv (setsB n)] := by
  refine fnW Try.func39 rfl rfl bodyOk_39 rfl rtys_39 rfl ?_
  repeat' (first
    | ((with_reducible apply Wo_u); (conv => lhs; simp -implicitDefEqProofs [*]) <;> exact rfl)
    | ((with_reducible apply Wo_n); (conv => lhs; simp -implicitDefEqProofs [*]) <;> exact rfl)
    | (with_reducible apply Wo_nil)
    | ((with_reducible apply Wo_gt); (exact rfl); ((conv => lhs; simp -implicitDefEqProofs [*]) <;> exact rfl); (conv => lhs; simp -implicitDefEqProofs [*]) <;> exact rfl)
    | ((with_reducible apply Wo_gf); (exact rfl); ((conv => lhs; simp -implicitDefEqProofs [*]) <;> exact rfl); (exact rfl))
    | ((with_reducible apply Wo_gx); (exact rfl); ((conv => lhs; simp -implicitDefEqProofs [*]) <;> exact rfl))
    | ((with_reducible apply Wo_gsT); (exact rfl); ((conv => lhs; simp -implicitDefEqProofs [*]) <;> exact rfl))
    | ((with_reducible apply Wo_gsF); (exact rfl); ((conv => lhs; simp -implicitDefEqProofs [*]) <;> exact rfl))
    | ((with_reducible apply ex2); (conv => lhs; simp -implicitDefEqProofs [*]) <;> exact rfl)
    | (with_reducible apply W_ss) | (with_reducible apply W_srl) | (with_reducible apply W_rl)
    | ((with_reducible apply W_sc); (conv => lhs; simp -implicitDefEqProofs [*]) <;> exact rfl)
    | ((with_reducible apply W_c); (conv => lhs; simp -implicitDefEqProofs [*]) <;> exact rfl)
    | ((with_reducible apply W_srdl); kernel_rfl) | ((with_reducible apply W_rdl); kernel_rfl)
    | ((with_reducible apply Wd_u); (conv => lhs; simp -implicitDefEqProofs [*]) <;> exact rfl)
    | ((with_reducible apply Wd_n); (conv => lhs; simp -implicitDefEqProofs [*]) <;> exact rfl)
    | ((with_reducible apply Wd_nil); exact rfl)
    | ((with_reducible apply Wd_gsT); (exact rfl); ((conv => lhs; simp -implicitDefEqProofs [*]) <;> exact rfl))
    | ((with_reducible apply Wd_gsF); (exact rfl); ((conv => lhs; simp -implicitDefEqProofs [*]) <;> exact rfl))
    | ((with_reducible apply ex4); (conv => lhs; simp -implicitDefEqProofs [*]) <;> exact rfl)
    | (with_reducible apply W_sblock) | (with_reducible apply W_block) | (with_reducible apply W_sskip) | (with_reducible apply W_skip) | (with_reducible apply W_sret) | (with_reducible apply W_ret) | (with_reducible apply W_sexit) | (with_reducible apply W_exit)
    | (with_reducible apply thenW_n) | (with_reducible apply thenW_r) | (with_reducible apply thenW_e) | (with_reducible apply inB_n) | (with_reducible apply inB_r) | (with_reducible apply inB_e) | ((with_reducible apply inB_o); rotate_left; exact rfl)
    | ((with_reducible apply EndQ_ret); (conv => lhs; simp -implicitDefEqProofs [*]) <;> exact rfl) | ((with_reducible apply EndQ_normal); (conv => lhs; simp -implicitDefEqProofs [*]) <;> exact rfl)
    | (intro h h'; try simp [*, -h] at h'))
  all_goals simp [setsB, *]
set_option maxHeartbeats 1000000 in
@[simp] theorem d36 (i n : Int)  : (lim Try.prog E31 X31).dat 36 [iv i, iv n] = some [bv (withinB i n)] := by
  refine fnW Try.func36 rfl rfl bodyOk_36 rfl rtys_36 rfl ?_
  by_cases h1 : 0 ≤ i
  all_goals skip
  repeat' (first
    | ((with_reducible apply Wo_u); (conv => lhs; simp -implicitDefEqProofs [*]) <;> exact rfl)
    | ((with_reducible apply Wo_n); (conv => lhs; simp -implicitDefEqProofs [*]) <;> exact rfl)
    | (with_reducible apply Wo_nil)
    | ((with_reducible apply Wo_gt); (exact rfl); ((conv => lhs; simp -implicitDefEqProofs [*]) <;> exact rfl); (conv => lhs; simp -implicitDefEqProofs [*]) <;> exact rfl)
    | ((with_reducible apply Wo_gf); (exact rfl); ((conv => lhs; simp -implicitDefEqProofs [*]) <;> exact rfl); (exact rfl))
    | ((with_reducible apply Wo_gx); (exact rfl); ((conv => lhs; simp -implicitDefEqProofs [*]) <;> exact rfl))
    | ((with_reducible apply Wo_gsT); (exact rfl); ((conv => lhs; simp -implicitDefEqProofs [*]) <;> exact rfl))
    | ((with_reducible apply Wo_gsF); (exact rfl); ((conv => lhs; simp -implicitDefEqProofs [*]) <;> exact rfl))
    | ((with_reducible apply ex2); (conv => lhs; simp -implicitDefEqProofs [*]) <;> exact rfl)
    | (with_reducible apply W_ss) | (with_reducible apply W_srl) | (with_reducible apply W_rl)
    | ((with_reducible apply W_sc); (conv => lhs; simp -implicitDefEqProofs [*]) <;> exact rfl)
    | ((with_reducible apply W_c); (conv => lhs; simp -implicitDefEqProofs [*]) <;> exact rfl)
    | ((with_reducible apply W_srdl); kernel_rfl) | ((with_reducible apply W_rdl); kernel_rfl)
    | ((with_reducible apply Wd_u); (conv => lhs; simp -implicitDefEqProofs [*]) <;> exact rfl)
    | ((with_reducible apply Wd_n); (conv => lhs; simp -implicitDefEqProofs [*]) <;> exact rfl)
    | ((with_reducible apply Wd_nil); exact rfl)
    | ((with_reducible apply Wd_gsT); (exact rfl); ((conv => lhs; simp -implicitDefEqProofs [*]) <;> exact rfl))
    | ((with_reducible apply Wd_gsF); (exact rfl); ((conv => lhs; simp -implicitDefEqProofs [*]) <;> exact rfl))
    | ((with_reducible apply ex4); (conv => lhs; simp -implicitDefEqProofs [*]) <;> exact rfl)
    | (with_reducible apply W_sblock) | (with_reducible apply W_block) | (with_reducible apply W_sskip) | (with_reducible apply W_skip) | (with_reducible apply W_sret) | (with_reducible apply W_ret) | (with_reducible apply W_sexit) | (with_reducible apply W_exit)
    | (with_reducible apply thenW_n) | (with_reducible apply thenW_r) | (with_reducible apply thenW_e) | (with_reducible apply inB_n) | (with_reducible apply inB_r) | (with_reducible apply inB_e) | ((with_reducible apply inB_o); rotate_left; exact rfl)
    | ((with_reducible apply EndQ_ret); (conv => lhs; simp -implicitDefEqProofs [*]) <;> exact rfl) | ((with_reducible apply EndQ_normal); (conv => lhs; simp -implicitDefEqProofs [*]) <;> exact rfl)
    | (intro h h'; try simp [*, -h] at h'))
  all_goals simp [withinB, *]
set_option maxHeartbeats 1000000 in
@[simp] theorem d30 (op d a b k base size n : Int)  : (lim Try.prog E31 X31).dat 30 [.agg [iv op, iv d, iv a, iv b, iv k, iv base, iv size, .sc (.int .u32 n)]] = some [iv (setsZ op d)] := by
  refine fnW Try.func30 rfl rfl bodyOk_30 rfl rtys_30 rfl ?_
  repeat' (first
    | ((with_reducible apply Wo_u); (conv => lhs; simp -implicitDefEqProofs [*]) <;> exact rfl)
    | ((with_reducible apply Wo_n); (conv => lhs; simp -implicitDefEqProofs [*]) <;> exact rfl)
    | (with_reducible apply Wo_nil)
    | ((with_reducible apply Wo_gt); (exact rfl); ((conv => lhs; simp -implicitDefEqProofs [*]) <;> exact rfl); (conv => lhs; simp -implicitDefEqProofs [*]) <;> exact rfl)
    | ((with_reducible apply Wo_gf); (exact rfl); ((conv => lhs; simp -implicitDefEqProofs [*]) <;> exact rfl); (exact rfl))
    | ((with_reducible apply Wo_gx); (exact rfl); ((conv => lhs; simp -implicitDefEqProofs [*]) <;> exact rfl))
    | ((with_reducible apply Wo_gsT); (exact rfl); ((conv => lhs; simp -implicitDefEqProofs [*]) <;> exact rfl))
    | ((with_reducible apply Wo_gsF); (exact rfl); ((conv => lhs; simp -implicitDefEqProofs [*]) <;> exact rfl))
    | ((with_reducible apply ex2); (conv => lhs; simp -implicitDefEqProofs [*]) <;> exact rfl)
    | (with_reducible apply W_ss) | (with_reducible apply W_srl) | (with_reducible apply W_rl)
    | ((with_reducible apply W_sc); (conv => lhs; simp -implicitDefEqProofs [*]) <;> exact rfl)
    | ((with_reducible apply W_c); (conv => lhs; simp -implicitDefEqProofs [*]) <;> exact rfl)
    | ((with_reducible apply W_srdl); kernel_rfl) | ((with_reducible apply W_rdl); kernel_rfl)
    | ((with_reducible apply Wd_u); (conv => lhs; simp -implicitDefEqProofs [*]) <;> exact rfl)
    | ((with_reducible apply Wd_n); (conv => lhs; simp -implicitDefEqProofs [*]) <;> exact rfl)
    | ((with_reducible apply Wd_nil); exact rfl)
    | ((with_reducible apply Wd_gsT); (exact rfl); ((conv => lhs; simp -implicitDefEqProofs [*]) <;> exact rfl))
    | ((with_reducible apply Wd_gsF); (exact rfl); ((conv => lhs; simp -implicitDefEqProofs [*]) <;> exact rfl))
    | ((with_reducible apply ex4); (conv => lhs; simp -implicitDefEqProofs [*]) <;> exact rfl)
    | (with_reducible apply W_sblock) | (with_reducible apply W_block) | (with_reducible apply W_sskip) | (with_reducible apply W_skip) | (with_reducible apply W_sret) | (with_reducible apply W_ret) | (with_reducible apply W_sexit) | (with_reducible apply W_exit)
    | (with_reducible apply thenW_n) | (with_reducible apply thenW_r) | (with_reducible apply thenW_e) | (with_reducible apply inB_n) | (with_reducible apply inB_r) | (with_reducible apply inB_e) | ((with_reducible apply inB_o); rotate_left; exact rfl)
    | ((with_reducible apply EndQ_ret); (conv => lhs; simp -implicitDefEqProofs [*]) <;> exact rfl) | ((with_reducible apply EndQ_normal); (conv => lhs; simp -implicitDefEqProofs [*]) <;> exact rfl)
    | (intro h h'; try simp [*, -h] at h'))
  all_goals simp [setsZ, *]
set_option maxHeartbeats 1000000 in
@[simp] theorem d34 (op d a b k base size n : Int)  : (lim Try.prog E31 X31).dat 34 [.agg [iv op, iv d, iv a, iv b, iv k, iv base, iv size, .sc (.int .u32 n)]] = some [iv (setsZ op d)] := by
  refine fnW Try.func34 rfl rfl bodyOk_34 rfl rtys_34 rfl ?_
  repeat' (first
    | ((with_reducible apply Wo_u); (conv => lhs; simp -implicitDefEqProofs [*]) <;> exact rfl)
    | ((with_reducible apply Wo_n); (conv => lhs; simp -implicitDefEqProofs [*]) <;> exact rfl)
    | (with_reducible apply Wo_nil)
    | ((with_reducible apply Wo_gt); (exact rfl); ((conv => lhs; simp -implicitDefEqProofs [*]) <;> exact rfl); (conv => lhs; simp -implicitDefEqProofs [*]) <;> exact rfl)
    | ((with_reducible apply Wo_gf); (exact rfl); ((conv => lhs; simp -implicitDefEqProofs [*]) <;> exact rfl); (exact rfl))
    | ((with_reducible apply Wo_gx); (exact rfl); ((conv => lhs; simp -implicitDefEqProofs [*]) <;> exact rfl))
    | ((with_reducible apply Wo_gsT); (exact rfl); ((conv => lhs; simp -implicitDefEqProofs [*]) <;> exact rfl))
    | ((with_reducible apply Wo_gsF); (exact rfl); ((conv => lhs; simp -implicitDefEqProofs [*]) <;> exact rfl))
    | ((with_reducible apply ex2); (conv => lhs; simp -implicitDefEqProofs [*]) <;> exact rfl)
    | (with_reducible apply W_ss) | (with_reducible apply W_srl) | (with_reducible apply W_rl)
    | ((with_reducible apply W_sc); (conv => lhs; simp -implicitDefEqProofs [*]) <;> exact rfl)
    | ((with_reducible apply W_c); (conv => lhs; simp -implicitDefEqProofs [*]) <;> exact rfl)
    | ((with_reducible apply W_srdl); kernel_rfl) | ((with_reducible apply W_rdl); kernel_rfl)
    | ((with_reducible apply Wd_u); (conv => lhs; simp -implicitDefEqProofs [*]) <;> exact rfl)
    | ((with_reducible apply Wd_n); (conv => lhs; simp -implicitDefEqProofs [*]) <;> exact rfl)
    | ((with_reducible apply Wd_nil); exact rfl)
    | ((with_reducible apply Wd_gsT); (exact rfl); ((conv => lhs; simp -implicitDefEqProofs [*]) <;> exact rfl))
    | ((with_reducible apply Wd_gsF); (exact rfl); ((conv => lhs; simp -implicitDefEqProofs [*]) <;> exact rfl))
    | ((with_reducible apply ex4); (conv => lhs; simp -implicitDefEqProofs [*]) <;> exact rfl)
    | (with_reducible apply W_sblock) | (with_reducible apply W_block) | (with_reducible apply W_sskip) | (with_reducible apply W_skip) | (with_reducible apply W_sret) | (with_reducible apply W_ret) | (with_reducible apply W_sexit) | (with_reducible apply W_exit)
    | (with_reducible apply thenW_n) | (with_reducible apply thenW_r) | (with_reducible apply thenW_e) | (with_reducible apply inB_n) | (with_reducible apply inB_r) | (with_reducible apply inB_e) | ((with_reducible apply inB_o); rotate_left; exact rfl)
    | ((with_reducible apply EndQ_ret); (conv => lhs; simp -implicitDefEqProofs [*]) <;> exact rfl) | ((with_reducible apply EndQ_normal); (conv => lhs; simp -implicitDefEqProofs [*]) <;> exact rfl)
    | (intro h h'; try simp [*, -h] at h'))
  all_goals simp [setsZ, setsB, *]
set_option maxHeartbeats 1000000 in
@[simp] theorem d27 (op d a b k base size n : Int)  : (lim Try.prog E31 X31).dat 27 [.agg [iv op, iv d, iv a, iv b, iv k, iv base, iv size, .sc (.int .u32 n)]] = some [.vec 1 ((usesL op a b).map fun x => [iv x])] := by
  refine fnW Try.func27 rfl rfl bodyOk_27 rfl rtys_27 rfl ?_
  repeat' (first
    | ((with_reducible apply Wo_u); (conv => lhs; simp -implicitDefEqProofs [*]) <;> exact rfl)
    | ((with_reducible apply Wo_n); (conv => lhs; simp -implicitDefEqProofs [*]) <;> exact rfl)
    | (with_reducible apply Wo_nil)
    | ((with_reducible apply Wo_gt); (exact rfl); ((conv => lhs; simp -implicitDefEqProofs [*]) <;> exact rfl); (conv => lhs; simp -implicitDefEqProofs [*]) <;> exact rfl)
    | ((with_reducible apply Wo_gf); (exact rfl); ((conv => lhs; simp -implicitDefEqProofs [*]) <;> exact rfl); (exact rfl))
    | ((with_reducible apply Wo_gx); (exact rfl); ((conv => lhs; simp -implicitDefEqProofs [*]) <;> exact rfl))
    | ((with_reducible apply Wo_gsT); (exact rfl); ((conv => lhs; simp -implicitDefEqProofs [*]) <;> exact rfl))
    | ((with_reducible apply Wo_gsF); (exact rfl); ((conv => lhs; simp -implicitDefEqProofs [*]) <;> exact rfl))
    | ((with_reducible apply ex2); (conv => lhs; simp -implicitDefEqProofs [*]) <;> exact rfl)
    | (with_reducible apply W_ss) | (with_reducible apply W_srl) | (with_reducible apply W_rl)
    | ((with_reducible apply W_sc); (conv => lhs; simp -implicitDefEqProofs [*]) <;> exact rfl)
    | ((with_reducible apply W_c); (conv => lhs; simp -implicitDefEqProofs [*]) <;> exact rfl)
    | ((with_reducible apply W_srdl); kernel_rfl) | ((with_reducible apply W_rdl); kernel_rfl)
    | ((with_reducible apply Wd_u); (conv => lhs; simp -implicitDefEqProofs [*]) <;> exact rfl)
    | ((with_reducible apply Wd_n); (conv => lhs; simp -implicitDefEqProofs [*]) <;> exact rfl)
    | ((with_reducible apply Wd_nil); exact rfl)
    | ((with_reducible apply Wd_gsT); (exact rfl); ((conv => lhs; simp -implicitDefEqProofs [*]) <;> exact rfl))
    | ((with_reducible apply Wd_gsF); (exact rfl); ((conv => lhs; simp -implicitDefEqProofs [*]) <;> exact rfl))
    | ((with_reducible apply ex4); (conv => lhs; simp -implicitDefEqProofs [*]) <;> exact rfl)
    | (with_reducible apply W_sblock) | (with_reducible apply W_block) | (with_reducible apply W_sskip) | (with_reducible apply W_skip) | (with_reducible apply W_sret) | (with_reducible apply W_ret) | (with_reducible apply W_sexit) | (with_reducible apply W_exit)
    | (with_reducible apply thenW_n) | (with_reducible apply thenW_r) | (with_reducible apply thenW_e) | (with_reducible apply inB_n) | (with_reducible apply inB_r) | (with_reducible apply inB_e) | ((with_reducible apply inB_o); rotate_left; exact rfl)
    | ((with_reducible apply EndQ_ret); (conv => lhs; simp -implicitDefEqProofs [*]) <;> exact rfl) | ((with_reducible apply EndQ_normal); (conv => lhs; simp -implicitDefEqProofs [*]) <;> exact rfl)
    | (intro h h'; try simp [*, -h] at h'))
  all_goals simp [usesL, *]
set_option maxHeartbeats 1000000 in
@[simp] theorem d21 (f : Fn) (hs : (sizeN f : Int) < 9223372036854775807) : (lim Try.prog E31 X31).dat 21 [.agg [iv f.regs, .sl false 5 (f.blocks.map Blk.row)]] = some [iv (sizeN f)] := by
  refine fnW Try.func21 rfl rfl bodyOk_21 rfl rtys_21 rfl ?_
  have hb : f.blocks.length ≤ sizeN f := by unfold sizeN; omega
  repeat' (first
    | ((with_reducible apply Wo_u); (conv => lhs; simp -implicitDefEqProofs ) <;> exact rfl)
    | ((with_reducible apply Wo_n); (conv => lhs; simp -implicitDefEqProofs ) <;> exact rfl)
    | (with_reducible apply Wo_nil)
    | ((with_reducible apply Wo_gt); (exact rfl); ((conv => lhs; simp -implicitDefEqProofs ) <;> exact rfl); (conv => lhs; simp -implicitDefEqProofs ) <;> exact rfl)
    | ((with_reducible apply Wo_gf); (exact rfl); ((conv => lhs; simp -implicitDefEqProofs ) <;> exact rfl); (exact rfl))
    | ((with_reducible apply Wo_gx); (exact rfl); ((conv => lhs; simp -implicitDefEqProofs ) <;> exact rfl))
    | ((with_reducible apply Wo_gsT); (exact rfl); ((conv => lhs; simp -implicitDefEqProofs ) <;> exact rfl))
    | ((with_reducible apply Wo_gsF); (exact rfl); ((conv => lhs; simp -implicitDefEqProofs ) <;> exact rfl))
    | ((with_reducible apply ex2); (conv => lhs; simp -implicitDefEqProofs ) <;> exact rfl)
    | (with_reducible apply W_ss) | (with_reducible apply W_srl) | (with_reducible apply W_rl)
    | ((with_reducible apply W_sc); (conv => lhs; simp -implicitDefEqProofs ) <;> exact rfl)
    | ((with_reducible apply W_c); (conv => lhs; simp -implicitDefEqProofs ) <;> exact rfl)
    | ((with_reducible apply W_srdl); kernel_rfl) | ((with_reducible apply W_rdl); kernel_rfl)
    | ((with_reducible apply Wd_u); (conv => lhs; simp -implicitDefEqProofs ) <;> exact rfl)
    | ((with_reducible apply Wd_n); (conv => lhs; simp -implicitDefEqProofs ) <;> exact rfl)
    | ((with_reducible apply Wd_nil); exact rfl)
    | ((with_reducible apply Wd_gsT); (exact rfl); ((conv => lhs; simp -implicitDefEqProofs ) <;> exact rfl))
    | ((with_reducible apply Wd_gsF); (exact rfl); ((conv => lhs; simp -implicitDefEqProofs ) <;> exact rfl))
    | ((with_reducible apply ex4); (conv => lhs; simp -implicitDefEqProofs ) <;> exact rfl)
    | (with_reducible apply W_sblock) | (with_reducible apply W_block) | (with_reducible apply W_sskip) | (with_reducible apply W_skip) | (with_reducible apply W_sret) | (with_reducible apply W_ret) | (with_reducible apply W_sexit) | (with_reducible apply W_exit)
    | (with_reducible apply thenW_n) | (with_reducible apply thenW_r) | (with_reducible apply thenW_e) | (with_reducible apply inB_n) | (with_reducible apply inB_r) | (with_reducible apply inB_e) | ((with_reducible apply inB_o); rotate_left; exact rfl)
    | ((with_reducible apply EndQ_ret); (conv => lhs; simp -implicitDefEqProofs ) <;> exact rfl) | ((with_reducible apply EndQ_normal); (conv => lhs; simp -implicitDefEqProofs ) <;> exact rfl)
    | (intro h h'; try simp [*, -h] at h'))
  refine W_loopS (n := f.blocks.length) (fun s0 m s => ∃ k : Nat, m = f.blocks.length - k ∧ k ≤ f.blocks.length ∧ s.fr 4 = iv k ∧ s.fr 3 = iv (f.blocks.length + accN f.blocks k : Nat) ∧ s.fr 1 = s0.fr 1 ∧ s.hp ⟨0, 1, 0⟩ = s0.hp ⟨0, 1, 0⟩) ⟨0, by simp, by first | omega | simp, by simp, by simp, by simp, by simp⟩ ?_
  rintro m ⟨fr, hp⟩ ⟨k, rfl, hk, hs4, hs3, hs1, hh1⟩
  simp at hs4 hs3 hs1 hh1
  by_cases hlt : k < f.blocks.length
  · have hg := List.getElem?_eq_getElem hlt
    have hw := wrapN (k := k) (by omega)
    have hn := accN_succ hg
    have hl := accN_le f.blocks (k + 1)
    have hw2 : IntKind.i64.wrap ((f.blocks.length : Int) + (accN f.blocks k : Int) + (f.blocks[k].ins.length : Int)) = (f.blocks.length : Int) + (accN f.blocks k : Int) + (f.blocks[k].ins.length : Int) := wrap64 (by unfold sizeN at hs; omega) (by unfold sizeN at hs; omega)
    clear hl
    repeat' (first
      | ((with_reducible apply Wo_u); (conv => lhs; simp -implicitDefEqProofs [*]) <;> exact rfl)
      | ((with_reducible apply Wo_n); (conv => lhs; simp -implicitDefEqProofs [*]) <;> exact rfl)
      | (with_reducible apply Wo_nil)
      | ((with_reducible apply Wo_gt); (exact rfl); ((conv => lhs; simp -implicitDefEqProofs [*]) <;> exact rfl); (conv => lhs; simp -implicitDefEqProofs [*]) <;> exact rfl)
      | ((with_reducible apply Wo_gf); (exact rfl); ((conv => lhs; simp -implicitDefEqProofs [*]) <;> exact rfl); (exact rfl))
      | ((with_reducible apply Wo_gx); (exact rfl); ((conv => lhs; simp -implicitDefEqProofs [*]) <;> exact rfl))
      | ((with_reducible apply Wo_gsT); (exact rfl); ((conv => lhs; simp -implicitDefEqProofs [*]) <;> exact rfl))
      | ((with_reducible apply Wo_gsF); (exact rfl); ((conv => lhs; simp -implicitDefEqProofs [*]) <;> exact rfl))
      | ((with_reducible apply ex2); (conv => lhs; simp -implicitDefEqProofs [*]) <;> exact rfl)
      | (with_reducible apply W_ss) | (with_reducible apply W_srl) | (with_reducible apply W_rl)
      | ((with_reducible apply W_sc); (conv => lhs; simp -implicitDefEqProofs [*]) <;> exact rfl)
      | ((with_reducible apply W_c); (conv => lhs; simp -implicitDefEqProofs [*]) <;> exact rfl)
      | ((with_reducible apply W_srdl); kernel_rfl) | ((with_reducible apply W_rdl); kernel_rfl)
      | ((with_reducible apply Wd_u); (conv => lhs; simp -implicitDefEqProofs [*]) <;> exact rfl)
      | ((with_reducible apply Wd_n); (conv => lhs; simp -implicitDefEqProofs [*]) <;> exact rfl)
      | ((with_reducible apply Wd_nil); exact rfl)
      | ((with_reducible apply Wd_gsT); (exact rfl); ((conv => lhs; simp -implicitDefEqProofs [*]) <;> exact rfl))
      | ((with_reducible apply Wd_gsF); (exact rfl); ((conv => lhs; simp -implicitDefEqProofs [*]) <;> exact rfl))
      | ((with_reducible apply ex4); (conv => lhs; simp -implicitDefEqProofs [*]) <;> exact rfl)
      | (with_reducible apply W_sblock) | (with_reducible apply W_block) | (with_reducible apply W_sskip) | (with_reducible apply W_skip) | (with_reducible apply W_sret) | (with_reducible apply W_ret) | (with_reducible apply W_sexit) | (with_reducible apply W_exit)
      | (with_reducible apply thenW_n) | (with_reducible apply thenW_r) | (with_reducible apply thenW_e) | (with_reducible apply inB_n) | (with_reducible apply inB_r) | (with_reducible apply inB_e) | ((with_reducible apply inB_o); rotate_left; exact rfl)
      | ((with_reducible apply EndQ_ret); (conv => lhs; simp -implicitDefEqProofs [*]) <;> exact rfl) | ((with_reducible apply EndQ_normal); (conv => lhs; simp -implicitDefEqProofs [*]) <;> exact rfl)
      | (intro h h'; try simp [*, -h] at h'))
    exact ⟨_, by omega, k + 1, rfl, hlt, by simp, by simp [hn]; omega, by simp [*], by simp [*]⟩
  · obtain rfl : k = f.blocks.length := by omega
    repeat' (first
      | ((with_reducible apply Wo_u); (conv => lhs; simp -implicitDefEqProofs [*]) <;> exact rfl)
      | ((with_reducible apply Wo_n); (conv => lhs; simp -implicitDefEqProofs [*]) <;> exact rfl)
      | (with_reducible apply Wo_nil)
      | ((with_reducible apply Wo_gt); (exact rfl); ((conv => lhs; simp -implicitDefEqProofs [*]) <;> exact rfl); (conv => lhs; simp -implicitDefEqProofs [*]) <;> exact rfl)
      | ((with_reducible apply Wo_gf); (exact rfl); ((conv => lhs; simp -implicitDefEqProofs [*]) <;> exact rfl); (exact rfl))
      | ((with_reducible apply Wo_gx); (exact rfl); ((conv => lhs; simp -implicitDefEqProofs [*]) <;> exact rfl))
      | ((with_reducible apply Wo_gsT); (exact rfl); ((conv => lhs; simp -implicitDefEqProofs [*]) <;> exact rfl))
      | ((with_reducible apply Wo_gsF); (exact rfl); ((conv => lhs; simp -implicitDefEqProofs [*]) <;> exact rfl))
      | ((with_reducible apply ex2); (conv => lhs; simp -implicitDefEqProofs [*]) <;> exact rfl)
      | (with_reducible apply W_ss) | (with_reducible apply W_srl) | (with_reducible apply W_rl)
      | ((with_reducible apply W_sc); (conv => lhs; simp -implicitDefEqProofs [*]) <;> exact rfl)
      | ((with_reducible apply W_c); (conv => lhs; simp -implicitDefEqProofs [*]) <;> exact rfl)
      | ((with_reducible apply W_srdl); kernel_rfl) | ((with_reducible apply W_rdl); kernel_rfl)
      | ((with_reducible apply Wd_u); (conv => lhs; simp -implicitDefEqProofs [*]) <;> exact rfl)
      | ((with_reducible apply Wd_n); (conv => lhs; simp -implicitDefEqProofs [*]) <;> exact rfl)
      | ((with_reducible apply Wd_nil); exact rfl)
      | ((with_reducible apply Wd_gsT); (exact rfl); ((conv => lhs; simp -implicitDefEqProofs [*]) <;> exact rfl))
      | ((with_reducible apply Wd_gsF); (exact rfl); ((conv => lhs; simp -implicitDefEqProofs [*]) <;> exact rfl))
      | ((with_reducible apply ex4); (conv => lhs; simp -implicitDefEqProofs [*]) <;> exact rfl)
      | (with_reducible apply W_sblock) | (with_reducible apply W_block) | (with_reducible apply W_sskip) | (with_reducible apply W_skip) | (with_reducible apply W_sret) | (with_reducible apply W_ret) | (with_reducible apply W_sexit) | (with_reducible apply W_exit)
      | (with_reducible apply thenW_n) | (with_reducible apply thenW_r) | (with_reducible apply thenW_e) | (with_reducible apply inB_n) | (with_reducible apply inB_r) | (with_reducible apply inB_e) | ((with_reducible apply inB_o); rotate_left; exact rfl)
      | ((with_reducible apply EndQ_ret); (conv => lhs; simp -implicitDefEqProofs [*]) <;> exact rfl) | ((with_reducible apply EndQ_normal); (conv => lhs; simp -implicitDefEqProofs [*]) <;> exact rfl)
      | (intro h h'; try simp [*, -h] at h'))
    simp [sizeN]
end Go.Proofs.Ytmfhdhiaokejdaa
