/- Law 31: functions, walked. -/
import Derived.Test.YtmfhdhiaokejdaaKb
import Derived.Test.YtmfhdhiaokejdaaKc
import Derived.Test.YtmfhdhiaokejdaaKd
import Derived.Test.YtmfhdhiaokejdaaK6
import Derived.Test.YtmfhdhiaokejdaaK4
import Derived.Test.YtmfhdhiaokejdaaK5
import Derived.Lib.Hide
namespace Go.Proofs.Ytmfhdhiaokejdaa
open Go Go.Ab
set_option linter.unusedSimpArgs false
set_option linter.unusedVariables false
@[simp] theorem d25 (op d a b k base size n number regs words : Int) (hw : 0 ≤ words) (hw2 : words ≤ 1048576) : (lim Try.prog E31 X31).dat 25 [.agg [iv op, iv d, iv a, iv b, iv k, iv base, iv size, .sc (.int .u32 n)], iv number, iv regs, iv words] = some [bv (fitsB op d a b k base size n number regs words)] := by
  by_cases ho : op < 1 ∨ 10 < op
  · exact fits0 op d a b k base size n number regs words ho
  · have : op = 1 ∨ op = 2 ∨ op = 3 ∨ op = 4 ∨ op = 5 ∨ op = 6 ∨ op = 7 ∨ op = 8 ∨ op = 9 ∨ op = 10 := by omega
    rcases this with h | h | h | h | h | h | h | h | h | h <;> subst h
    · exact fits1 d a b k base size n number regs words
    · exact fits2 d a b k base size n number regs words
    · exact fits3 d a b k base size n number regs words
    · exact fits4 d a b k base size n number regs words
    · exact fits5 d a b k base size n number regs words
    · exact fits6 d a b k base size n number regs words hw hw2
    · exact fits7 d a b k base size n number regs words hw hw2
    · exact fits8 d a b k base size n number regs words
    · exact fits9 d a b k base size n number regs words
    · exact fits10 d a b k base size n number regs words
end Go.Proofs.Ytmfhdhiaokejdaa

namespace Go.Proofs.Ytmfhdhiaokejdaa
open Go Go.Ab
set_option linter.unusedSimpArgs false
set_option linter.unusedVariables false
set_option maxHeartbeats 1000000 in
@[simp] theorem d26 (a b : Blk) (ha : a.ins.length ≤ big) : (lim Try.prog E31 X31).dat 26 [.agg [.sl false 8 (a.ins.map Tac.row), iv a.en, iv a.v, iv a.to, iv a.el], .agg [.sl false 8 (b.ins.map Tac.row), iv b.en, iv b.v, iv b.to, iv b.el]] = some [bv (decide (a = b))] := by
  refine fnW Try.func26 rfl rfl bodyOk_26 rfl rtys_26 rfl ?_
  repeat' (first
    | ((with_reducible apply Wo_u); (conv => lhs; simp -implicitDefEqProofs [*]) <;> exact rfl)
    | ((with_reducible apply Wo_n); (conv => lhs; simp -implicitDefEqProofs [*]) <;> exact rfl)
    | (with_reducible apply Wo_nil)
    | ((with_reducible apply Wo_gt); (exact rfl); ((conv => lhs; simp -implicitDefEqProofs [*]) <;> exact rfl); (conv => lhs; simp -implicitDefEqProofs [*]) <;> exact rfl)
    | ((with_reducible apply Wo_gf); (exact rfl); ((conv => lhs; simp -implicitDefEqProofs [*]) <;> exact rfl); (exact rfl))
    | ((with_reducible apply Wo_gx); (exact rfl); ((conv => lhs; simp -implicitDefEqProofs [*]) <;> exact rfl))
    | ((with_reducible apply Wo_gsT); (exact rfl); ((conv => lhs; simp -implicitDefEqProofs [*]) <;> exact rfl))
    | ((with_reducible apply Wo_gsF); (exact rfl); ((conv => lhs; simp -implicitDefEqProofs [*]) <;> exact rfl))
    | ((with_reducible apply ex2); (conv => lhs; simp -implicitDefEqProofs [*]) <;> exact rfl)
    | (with_reducible apply W_ss) | (with_reducible apply W_srl) | (with_reducible apply W_rl)
    | ((with_reducible apply W_sc); (conv => lhs; simp -implicitDefEqProofs [*]) <;> exact rfl)
    | ((with_reducible apply W_c); (conv => lhs; simp -implicitDefEqProofs [*]) <;> exact rfl)
    | ((with_reducible apply W_srdl); kernel_rfl) | ((with_reducible apply W_rdl); kernel_rfl)
    | ((with_reducible apply Wd_u); (conv => lhs; simp -implicitDefEqProofs [*]) <;> exact rfl)
    | ((with_reducible apply Wd_n); (conv => lhs; simp -implicitDefEqProofs [*]) <;> exact rfl)
    | ((with_reducible apply Wd_nil); exact rfl)
    | ((with_reducible apply Wd_gsT); (exact rfl); ((conv => lhs; simp -implicitDefEqProofs [*]) <;> exact rfl))
    | ((with_reducible apply Wd_gsF); (exact rfl); ((conv => lhs; simp -implicitDefEqProofs [*]) <;> exact rfl))
    | ((with_reducible apply ex4); (conv => lhs; simp -implicitDefEqProofs [*]) <;> exact rfl)
    | (with_reducible apply W_sblock) | (with_reducible apply W_block) | (with_reducible apply W_sskip) | (with_reducible apply W_skip) | (with_reducible apply W_sret) | (with_reducible apply W_ret) | (with_reducible apply W_sexit) | (with_reducible apply W_exit)
    | (with_reducible apply thenW_n) | (with_reducible apply thenW_r) | (with_reducible apply thenW_e) | (with_reducible apply inB_n) | (with_reducible apply inB_r) | (with_reducible apply inB_e) | ((with_reducible apply inB_o); rotate_left; exact rfl)
    | ((with_reducible apply EndQ_ret); (conv => lhs; simp -implicitDefEqProofs [*]) <;> exact rfl) | ((with_reducible apply EndQ_normal); (conv => lhs; simp -implicitDefEqProofs [*]) <;> exact rfl)
    | (intro h h'; try simp [*, -h] at h'))
  all_goals (try (simp; intro e; subst e; simp at *; done))
  refine W_loopS (n := a.ins.length) (fun s0 m s => ∃ k : Nat, m = a.ins.length - k ∧ k ≤ a.ins.length ∧ s.fr 5 = iv k ∧ s.fr 2 = s0.fr 2 ∧ s.fr 3 = s0.fr 3 ∧ s.hp ⟨0, 2, 0⟩ = s0.hp ⟨0, 2, 0⟩ ∧ s.hp ⟨0, 3, 0⟩ = s0.hp ⟨0, 3, 0⟩ ∧ EqTo a.ins b.ins k) ⟨0, by simp, by first | omega | simp, by simp, by simp, by simp, by simp, by simp, EqTo.zero⟩ ?_
  rintro m ⟨fr, hp⟩ ⟨k, rfl, hk, hs5, hs2, hs3, hh2, hh3, hP⟩
  simp at hs5 hs2 hs3 hh2 hh3
  have hl : a.ins.length = b.ins.length := by omega
  by_cases hlt : k < a.ins.length
  · have hlt2 : k < b.ins.length := by omega
    have hg := List.getElem?_eq_getElem hlt
    have hg2 := List.getElem?_eq_getElem hlt2
    have hw := wrapN (k := k) (by unfold big at ha; omega)
    repeat' (first
      | ((with_reducible apply Wo_u); (conv => lhs; simp -implicitDefEqProofs [Tac.beq, *]) <;> exact rfl)
      | ((with_reducible apply Wo_n); (conv => lhs; simp -implicitDefEqProofs [Tac.beq, *]) <;> exact rfl)
      | (with_reducible apply Wo_nil)
      | ((with_reducible apply Wo_gt); (exact rfl); ((conv => lhs; simp -implicitDefEqProofs [Tac.beq, *]) <;> exact rfl); (conv => lhs; simp -implicitDefEqProofs [Tac.beq, *]) <;> exact rfl)
      | ((with_reducible apply Wo_gf); (exact rfl); ((conv => lhs; simp -implicitDefEqProofs [Tac.beq, *]) <;> exact rfl); (exact rfl))
      | ((with_reducible apply Wo_gx); (exact rfl); ((conv => lhs; simp -implicitDefEqProofs [Tac.beq, *]) <;> exact rfl))
      | ((with_reducible apply Wo_gsT); (exact rfl); ((conv => lhs; simp -implicitDefEqProofs [Tac.beq, *]) <;> exact rfl))
      | ((with_reducible apply Wo_gsF); (exact rfl); ((conv => lhs; simp -implicitDefEqProofs [Tac.beq, *]) <;> exact rfl))
      | ((with_reducible apply ex2); (conv => lhs; simp -implicitDefEqProofs [Tac.beq, *]) <;> exact rfl)
      | (with_reducible apply W_ss) | (with_reducible apply W_srl) | (with_reducible apply W_rl)
      | ((with_reducible apply W_sc); (conv => lhs; simp -implicitDefEqProofs [Tac.beq, *]) <;> exact rfl)
      | ((with_reducible apply W_c); (conv => lhs; simp -implicitDefEqProofs [Tac.beq, *]) <;> exact rfl)
      | ((with_reducible apply W_srdl); kernel_rfl) | ((with_reducible apply W_rdl); kernel_rfl)
      | ((with_reducible apply Wd_u); (conv => lhs; simp -implicitDefEqProofs [Tac.beq, *]) <;> exact rfl)
      | ((with_reducible apply Wd_n); (conv => lhs; simp -implicitDefEqProofs [Tac.beq, *]) <;> exact rfl)
      | ((with_reducible apply Wd_nil); exact rfl)
      | ((with_reducible apply Wd_gsT); (exact rfl); ((conv => lhs; simp -implicitDefEqProofs [Tac.beq, *]) <;> exact rfl))
      | ((with_reducible apply Wd_gsF); (exact rfl); ((conv => lhs; simp -implicitDefEqProofs [Tac.beq, *]) <;> exact rfl))
      | ((with_reducible apply ex4); (conv => lhs; simp -implicitDefEqProofs [Tac.beq, *]) <;> exact rfl)
      | (with_reducible apply W_sblock) | (with_reducible apply W_block) | (with_reducible apply W_sskip) | (with_reducible apply W_skip) | (with_reducible apply W_sret) | (with_reducible apply W_ret) | (with_reducible apply W_sexit) | (with_reducible apply W_exit)
      | (with_reducible apply thenW_n) | (with_reducible apply thenW_r) | (with_reducible apply thenW_e) | (with_reducible apply inB_n) | (with_reducible apply inB_r) | (with_reducible apply inB_e) | ((with_reducible apply inB_o); rotate_left; exact rfl)
      | ((with_reducible apply EndQ_ret); (conv => lhs; simp -implicitDefEqProofs [Tac.beq, *]) <;> exact rfl) | ((with_reducible apply EndQ_normal); (conv => lhs; simp -implicitDefEqProofs [Tac.beq, *]) <;> exact rfl)
      | (intro h h'; try simp [*, -h] at h'))
    · simp; intro e; subst e; simp at *
    · exact ⟨_, by omega, k + 1, rfl, hlt, by simp, by simp [*], by simp [*], by simp [*], by simp [*], hP.succ (by rw [hg, hg2, h'])⟩
  · obtain rfl : k = a.ins.length := by omega
    repeat' (first
      | ((with_reducible apply Wo_u); (conv => lhs; simp -implicitDefEqProofs [Tac.beq, *]) <;> exact rfl)
      | ((with_reducible apply Wo_n); (conv => lhs; simp -implicitDefEqProofs [Tac.beq, *]) <;> exact rfl)
      | (with_reducible apply Wo_nil)
      | ((with_reducible apply Wo_gt); (exact rfl); ((conv => lhs; simp -implicitDefEqProofs [Tac.beq, *]) <;> exact rfl); (conv => lhs; simp -implicitDefEqProofs [Tac.beq, *]) <;> exact rfl)
      | ((with_reducible apply Wo_gf); (exact rfl); ((conv => lhs; simp -implicitDefEqProofs [Tac.beq, *]) <;> exact rfl); (exact rfl))
      | ((with_reducible apply Wo_gx); (exact rfl); ((conv => lhs; simp -implicitDefEqProofs [Tac.beq, *]) <;> exact rfl))
      | ((with_reducible apply Wo_gsT); (exact rfl); ((conv => lhs; simp -implicitDefEqProofs [Tac.beq, *]) <;> exact rfl))
      | ((with_reducible apply Wo_gsF); (exact rfl); ((conv => lhs; simp -implicitDefEqProofs [Tac.beq, *]) <;> exact rfl))
      | ((with_reducible apply ex2); (conv => lhs; simp -implicitDefEqProofs [Tac.beq, *]) <;> exact rfl)
      | (with_reducible apply W_ss) | (with_reducible apply W_srl) | (with_reducible apply W_rl)
      | ((with_reducible apply W_sc); (conv => lhs; simp -implicitDefEqProofs [Tac.beq, *]) <;> exact rfl)
      | ((with_reducible apply W_c); (conv => lhs; simp -implicitDefEqProofs [Tac.beq, *]) <;> exact rfl)
      | ((with_reducible apply W_srdl); kernel_rfl) | ((with_reducible apply W_rdl); kernel_rfl)
      | ((with_reducible apply Wd_u); (conv => lhs; simp -implicitDefEqProofs [Tac.beq, *]) <;> exact rfl)
      | ((with_reducible apply Wd_n); (conv => lhs; simp -implicitDefEqProofs [Tac.beq, *]) <;> exact rfl)
      | ((with_reducible apply Wd_nil); exact rfl)
      | ((with_reducible apply Wd_gsT); (exact rfl); ((conv => lhs; simp -implicitDefEqProofs [Tac.beq, *]) <;> exact rfl))
      | ((with_reducible apply Wd_gsF); (exact rfl); ((conv => lhs; simp -implicitDefEqProofs [Tac.beq, *]) <;> exact rfl))
      | ((with_reducible apply ex4); (conv => lhs; simp -implicitDefEqProofs [Tac.beq, *]) <;> exact rfl)
      | (with_reducible apply W_sblock) | (with_reducible apply W_block) | (with_reducible apply W_sskip) | (with_reducible apply W_skip) | (with_reducible apply W_sret) | (with_reducible apply W_ret) | (with_reducible apply W_sexit) | (with_reducible apply W_exit)
      | (with_reducible apply thenW_n) | (with_reducible apply thenW_r) | (with_reducible apply thenW_e) | (with_reducible apply inB_n) | (with_reducible apply inB_r) | (with_reducible apply inB_e) | ((with_reducible apply inB_o); rotate_left; exact rfl)
      | ((with_reducible apply EndQ_ret); (conv => lhs; simp -implicitDefEqProofs [Tac.beq, *]) <;> exact rfl) | ((with_reducible apply EndQ_normal); (conv => lhs; simp -implicitDefEqProofs [Tac.beq, *]) <;> exact rfl)
      | (intro h h'; try simp [*, -h] at h'))
    simp
    exact Blk.ext' (hP.eq hl) (by assumption) (by assumption) (by assumption) (by assumption)
set_option maxHeartbeats 1000000 in
@[simp] theorem d16 (f g : Fn) (ha : f.fits) : (lim Try.prog E31 X31).dat 16 [.agg [iv f.regs, .sl false 5 (f.blocks.map Blk.row)], .agg [iv g.regs, .sl false 5 (g.blocks.map Blk.row)]] = some [bv (decide (f = g))] := by
  refine fnW Try.func16 rfl rfl bodyOk_16 rfl rtys_16 rfl ?_
  have hlen := ha.len
  repeat' (first
    | ((with_reducible apply Wo_u); (conv => lhs; simp -implicitDefEqProofs [*]) <;> exact rfl)
    | ((with_reducible apply Wo_n); (conv => lhs; simp -implicitDefEqProofs [*]) <;> exact rfl)
    | (with_reducible apply Wo_nil)
    | ((with_reducible apply Wo_gt); (exact rfl); ((conv => lhs; simp -implicitDefEqProofs [*]) <;> exact rfl); (conv => lhs; simp -implicitDefEqProofs [*]) <;> exact rfl)
    | ((with_reducible apply Wo_gf); (exact rfl); ((conv => lhs; simp -implicitDefEqProofs [*]) <;> exact rfl); (exact rfl))
    | ((with_reducible apply Wo_gx); (exact rfl); ((conv => lhs; simp -implicitDefEqProofs [*]) <;> exact rfl))
    | ((with_reducible apply Wo_gsT); (exact rfl); ((conv => lhs; simp -implicitDefEqProofs [*]) <;> exact rfl))
    | ((with_reducible apply Wo_gsF); (exact rfl); ((conv => lhs; simp -implicitDefEqProofs [*]) <;> exact rfl))
    | ((with_reducible apply ex2); (conv => lhs; simp -implicitDefEqProofs [*]) <;> exact rfl)
    | (with_reducible apply W_ss) | (with_reducible apply W_srl) | (with_reducible apply W_rl)
    | ((with_reducible apply W_sc); (conv => lhs; simp -implicitDefEqProofs [*]) <;> exact rfl)
    | ((with_reducible apply W_c); (conv => lhs; simp -implicitDefEqProofs [*]) <;> exact rfl)
    | ((with_reducible apply W_srdl); kernel_rfl) | ((with_reducible apply W_rdl); kernel_rfl)
    | ((with_reducible apply Wd_u); (conv => lhs; simp -implicitDefEqProofs [*]) <;> exact rfl)
    | ((with_reducible apply Wd_n); (conv => lhs; simp -implicitDefEqProofs [*]) <;> exact rfl)
    | ((with_reducible apply Wd_nil); exact rfl)
    | ((with_reducible apply Wd_gsT); (exact rfl); ((conv => lhs; simp -implicitDefEqProofs [*]) <;> exact rfl))
    | ((with_reducible apply Wd_gsF); (exact rfl); ((conv => lhs; simp -implicitDefEqProofs [*]) <;> exact rfl))
    | ((with_reducible apply ex4); (conv => lhs; simp -implicitDefEqProofs [*]) <;> exact rfl)
    | (with_reducible apply W_sblock) | (with_reducible apply W_block) | (with_reducible apply W_sskip) | (with_reducible apply W_skip) | (with_reducible apply W_sret) | (with_reducible apply W_ret) | (with_reducible apply W_sexit) | (with_reducible apply W_exit)
    | (with_reducible apply thenW_n) | (with_reducible apply thenW_r) | (with_reducible apply thenW_e) | (with_reducible apply inB_n) | (with_reducible apply inB_r) | (with_reducible apply inB_e) | ((with_reducible apply inB_o); rotate_left; exact rfl)
    | ((with_reducible apply EndQ_ret); (conv => lhs; simp -implicitDefEqProofs [*]) <;> exact rfl) | ((with_reducible apply EndQ_normal); (conv => lhs; simp -implicitDefEqProofs [*]) <;> exact rfl)
    | (intro h h'; try simp [*, -h] at h'))
  all_goals (try (simp; intro e; subst e; simp at *; done))
  refine W_loopS (n := f.blocks.length) (fun s0 m s => ∃ k : Nat, m = f.blocks.length - k ∧ k ≤ f.blocks.length ∧ s.fr 5 = iv k ∧ s.fr 2 = s0.fr 2 ∧ s.fr 3 = s0.fr 3 ∧ s.hp ⟨0, 2, 0⟩ = s0.hp ⟨0, 2, 0⟩ ∧ s.hp ⟨0, 3, 0⟩ = s0.hp ⟨0, 3, 0⟩ ∧ EqTo f.blocks g.blocks k) ⟨0, by simp, by first | omega | simp, by simp, by simp, by simp, by simp, by simp, EqTo.zero⟩ ?_
  rintro m ⟨fr, hp⟩ ⟨k, rfl, hk, hs5, hs2, hs3, hh2, hh3, hP⟩
  simp at hs5 hs2 hs3 hh2 hh3
  have hl : f.blocks.length = g.blocks.length := by omega
  by_cases hlt : k < f.blocks.length
  · have hlt2 : k < g.blocks.length := by omega
    have hg := List.getElem?_eq_getElem hlt
    have hg2 := List.getElem?_eq_getElem hlt2
    have hw := wrapN (k := k) (by unfold big at hlen; omega)
    have hb := d26 f.blocks[k] g.blocks[k] (ha.ins _ (List.getElem_mem hlt)).len
    repeat' (first
      | ((with_reducible apply Wo_u); (conv => lhs; simp -implicitDefEqProofs [*]) <;> exact rfl)
      | ((with_reducible apply Wo_n); (conv => lhs; simp -implicitDefEqProofs [*]) <;> exact rfl)
      | (with_reducible apply Wo_nil)
      | ((with_reducible apply Wo_gt); (exact rfl); ((conv => lhs; simp -implicitDefEqProofs [*]) <;> exact rfl); (conv => lhs; simp -implicitDefEqProofs [*]) <;> exact rfl)
      | ((with_reducible apply Wo_gf); (exact rfl); ((conv => lhs; simp -implicitDefEqProofs [*]) <;> exact rfl); (exact rfl))
      | ((with_reducible apply Wo_gx); (exact rfl); ((conv => lhs; simp -implicitDefEqProofs [*]) <;> exact rfl))
      | ((with_reducible apply Wo_gsT); (exact rfl); ((conv => lhs; simp -implicitDefEqProofs [*]) <;> exact rfl))
      | ((with_reducible apply Wo_gsF); (exact rfl); ((conv => lhs; simp -implicitDefEqProofs [*]) <;> exact rfl))
      | ((with_reducible apply ex2); (conv => lhs; simp -implicitDefEqProofs [*]) <;> exact rfl)
      | (with_reducible apply W_ss) | (with_reducible apply W_srl) | (with_reducible apply W_rl)
      | ((with_reducible apply W_sc); (conv => lhs; simp -implicitDefEqProofs [*]) <;> exact rfl)
      | ((with_reducible apply W_c); (conv => lhs; simp -implicitDefEqProofs [*]) <;> exact rfl)
      | ((with_reducible apply W_srdl); kernel_rfl) | ((with_reducible apply W_rdl); kernel_rfl)
      | ((with_reducible apply Wd_u); (conv => lhs; simp -implicitDefEqProofs [*]) <;> exact rfl)
      | ((with_reducible apply Wd_n); (conv => lhs; simp -implicitDefEqProofs [*]) <;> exact rfl)
      | ((with_reducible apply Wd_nil); exact rfl)
      | ((with_reducible apply Wd_gsT); (exact rfl); ((conv => lhs; simp -implicitDefEqProofs [*]) <;> exact rfl))
      | ((with_reducible apply Wd_gsF); (exact rfl); ((conv => lhs; simp -implicitDefEqProofs [*]) <;> exact rfl))
      | ((with_reducible apply ex4); (conv => lhs; simp -implicitDefEqProofs [*]) <;> exact rfl)
      | (with_reducible apply W_sblock) | (with_reducible apply W_block) | (with_reducible apply W_sskip) | (with_reducible apply W_skip) | (with_reducible apply W_sret) | (with_reducible apply W_ret) | (with_reducible apply W_sexit) | (with_reducible apply W_exit)
      | (with_reducible apply thenW_n) | (with_reducible apply thenW_r) | (with_reducible apply thenW_e) | (with_reducible apply inB_n) | (with_reducible apply inB_r) | (with_reducible apply inB_e) | ((with_reducible apply inB_o); rotate_left; exact rfl)
      | ((with_reducible apply EndQ_ret); (conv => lhs; simp -implicitDefEqProofs [*]) <;> exact rfl) | ((with_reducible apply EndQ_normal); (conv => lhs; simp -implicitDefEqProofs [*]) <;> exact rfl)
      | (intro h h'; try simp [*, -h] at h'))
    · simp; intro e; subst e; simp at *
    · exact ⟨_, by omega, k + 1, rfl, hlt, by simp, by simp [*], by simp [*], by simp [*], by simp [*], hP.succ (by rw [hg, hg2, h'])⟩
  · obtain rfl : k = f.blocks.length := by omega
    repeat' (first
      | ((with_reducible apply Wo_u); (conv => lhs; simp -implicitDefEqProofs [*]) <;> exact rfl)
      | ((with_reducible apply Wo_n); (conv => lhs; simp -implicitDefEqProofs [*]) <;> exact rfl)
      | (with_reducible apply Wo_nil)
      | ((with_reducible apply Wo_gt); (exact rfl); ((conv => lhs; simp -implicitDefEqProofs [*]) <;> exact rfl); (conv => lhs; simp -implicitDefEqProofs [*]) <;> exact rfl)
      | ((with_reducible apply Wo_gf); (exact rfl); ((conv => lhs; simp -implicitDefEqProofs [*]) <;> exact rfl); (exact rfl))
      | ((with_reducible apply Wo_gx); (exact rfl); ((conv => lhs; simp -implicitDefEqProofs [*]) <;> exact rfl))
      | ((with_reducible apply Wo_gsT); (exact rfl); ((conv => lhs; simp -implicitDefEqProofs [*]) <;> exact rfl))
      | ((with_reducible apply Wo_gsF); (exact rfl); ((conv => lhs; simp -implicitDefEqProofs [*]) <;> exact rfl))
      | ((with_reducible apply ex2); (conv => lhs; simp -implicitDefEqProofs [*]) <;> exact rfl)
      | (with_reducible apply W_ss) | (with_reducible apply W_srl) | (with_reducible apply W_rl)
      | ((with_reducible apply W_sc); (conv => lhs; simp -implicitDefEqProofs [*]) <;> exact rfl)
      | ((with_reducible apply W_c); (conv => lhs; simp -implicitDefEqProofs [*]) <;> exact rfl)
      | ((with_reducible apply W_srdl); kernel_rfl) | ((with_reducible apply W_rdl); kernel_rfl)
      | ((with_reducible apply Wd_u); (conv => lhs; simp -implicitDefEqProofs [*]) <;> exact rfl)
      | ((with_reducible apply Wd_n); (conv => lhs; simp -implicitDefEqProofs [*]) <;> exact rfl)
      | ((with_reducible apply Wd_nil); exact rfl)
      | ((with_reducible apply Wd_gsT); (exact rfl); ((conv => lhs; simp -implicitDefEqProofs [*]) <;> exact rfl))
      | ((with_reducible apply Wd_gsF); (exact rfl); ((conv => lhs; simp -implicitDefEqProofs [*]) <;> exact rfl))
      | ((with_reducible apply ex4); (conv => lhs; simp -implicitDefEqProofs [*]) <;> exact rfl)
      | (with_reducible apply W_sblock) | (with_reducible apply W_block) | (with_reducible apply W_sskip) | (with_reducible apply W_skip) | (with_reducible apply W_sret) | (with_reducible apply W_ret) | (with_reducible apply W_sexit) | (with_reducible apply W_exit)
      | (with_reducible apply thenW_n) | (with_reducible apply thenW_r) | (with_reducible apply thenW_e) | (with_reducible apply inB_n) | (with_reducible apply inB_r) | (with_reducible apply inB_e) | ((with_reducible apply inB_o); rotate_left; exact rfl)
      | ((with_reducible apply EndQ_ret); (conv => lhs; simp -implicitDefEqProofs [*]) <;> exact rfl) | ((with_reducible apply EndQ_normal); (conv => lhs; simp -implicitDefEqProofs [*]) <;> exact rfl)
      | (intro h h'; try simp [*, -h] at h'))
    simp
    exact Fn.ext' (by assumption) (hP.eq hl)
end Go.Proofs.Ytmfhdhiaokejdaa

namespace Go.Proofs.Ytmfhdhiaokejdaa
open Go Go.Ab
set_option linter.unusedSimpArgs false
set_option linter.unusedVariables false
set_option maxHeartbeats 1000000 in
@[simp] theorem d15 (f : Fn) (number words : Int) (ha : f.fits) (hw1 : 0 ≤ words) (hw2 : words ≤ 1048576) : (lim Try.prog E31 X31).dat 15 [.agg [iv f.regs, .sl false 5 (f.blocks.map Blk.row)], iv number, iv words] = some [bv (oneB f number words)] := by
  refine fnW Try.func15 rfl rfl bodyOk_15 rfl rtys_15 rfl ?_
  have hlen := ha.len
  repeat' (first
    | ((with_reducible apply Wo_u); (conv => lhs; simp -implicitDefEqProofs [*]) <;> exact rfl)
    | ((with_reducible apply Wo_n); (conv => lhs; simp -implicitDefEqProofs [*]) <;> exact rfl)
    | (with_reducible apply Wo_nil)
    | ((with_reducible apply Wo_gt); (exact rfl); ((conv => lhs; simp -implicitDefEqProofs [*]) <;> exact rfl); (conv => lhs; simp -implicitDefEqProofs [*]) <;> exact rfl)
    | ((with_reducible apply Wo_gf); (exact rfl); ((conv => lhs; simp -implicitDefEqProofs [*]) <;> exact rfl); (exact rfl))
    | ((with_reducible apply Wo_gx); (exact rfl); ((conv => lhs; simp -implicitDefEqProofs [*]) <;> exact rfl))
    | ((with_reducible apply Wo_gsT); (exact rfl); ((conv => lhs; simp -implicitDefEqProofs [*]) <;> exact rfl))
    | ((with_reducible apply Wo_gsF); (exact rfl); ((conv => lhs; simp -implicitDefEqProofs [*]) <;> exact rfl))
    | ((with_reducible apply ex2); (conv => lhs; simp -implicitDefEqProofs [*]) <;> exact rfl)
    | (with_reducible apply W_ss) | (with_reducible apply W_srl) | (with_reducible apply W_rl)
    | ((with_reducible apply W_sc); (conv => lhs; simp -implicitDefEqProofs [*]) <;> exact rfl)
    | ((with_reducible apply W_c); (conv => lhs; simp -implicitDefEqProofs [*]) <;> exact rfl)
    | ((with_reducible apply W_srdl); kernel_rfl) | ((with_reducible apply W_rdl); kernel_rfl)
    | ((with_reducible apply Wd_u); (conv => lhs; simp -implicitDefEqProofs [*]) <;> exact rfl)
    | ((with_reducible apply Wd_n); (conv => lhs; simp -implicitDefEqProofs [*]) <;> exact rfl)
    | ((with_reducible apply Wd_nil); exact rfl)
    | ((with_reducible apply Wd_gsT); (exact rfl); ((conv => lhs; simp -implicitDefEqProofs [*]) <;> exact rfl))
    | ((with_reducible apply Wd_gsF); (exact rfl); ((conv => lhs; simp -implicitDefEqProofs [*]) <;> exact rfl))
    | ((with_reducible apply ex4); (conv => lhs; simp -implicitDefEqProofs [*]) <;> exact rfl)
    | (with_reducible apply W_sblock) | (with_reducible apply W_block) | (with_reducible apply W_sskip) | (with_reducible apply W_skip) | (with_reducible apply W_sret) | (with_reducible apply W_ret) | (with_reducible apply W_sexit) | (with_reducible apply W_exit)
    | (with_reducible apply thenW_n) | (with_reducible apply thenW_r) | (with_reducible apply thenW_e) | (with_reducible apply inB_n) | (with_reducible apply inB_r) | (with_reducible apply inB_e) | ((with_reducible apply inB_o); rotate_left; exact rfl)
    | ((with_reducible apply EndQ_ret); (conv => lhs; simp -implicitDefEqProofs [*]) <;> exact rfl) | ((with_reducible apply EndQ_normal); (conv => lhs; simp -implicitDefEqProofs [*]) <;> exact rfl)
    | (intro h h'; try simp [*, -h] at h'))
  all_goals (try (simp [oneB, *]; done))
  all_goals (try (simp [oneB]; intros; omega))
  refine W_loopS (n := f.blocks.length) (fun s0 m s => ∃ k : Nat, m = f.blocks.length - k ∧ k ≤ f.blocks.length ∧ s.fr 7 = iv k ∧ s.fr 1 = s0.fr 1 ∧ s.fr 2 = s0.fr 2 ∧ s.fr 3 = s0.fr 3 ∧ s.hp ⟨0, 3, 0⟩ = s0.hp ⟨0, 3, 0⟩ ∧ AllTo (okBlk f.blocks.length f.regs number words) f.blocks k) ⟨0, by simp, by first | omega | simp, by simp, by simp, by simp, by simp, by simp, AllTo.zero⟩ ?_
  rintro m ⟨fr, hp⟩ ⟨k, rfl, hk, hs7, hs1, hs2, hs3, hh3, hP⟩
  simp at hs7 hs1 hs2 hs3 hh3
  have hr1 : 0 ≤ f.regs := by omega
  have hr2 : f.regs ≤ 4000 := by omega
  by_cases hlt : k < f.blocks.length
  · have hg := List.getElem?_eq_getElem hlt
    have hw := wrapN (k := k) (by unfold big at hlen; omega)
    have hbl := (ha.ins _ (List.getElem_mem hlt)).len
    repeat' (first
      | ((with_reducible apply Wo_u); (conv => lhs; simp -implicitDefEqProofs [*]) <;> exact rfl)
      | ((with_reducible apply Wo_n); (conv => lhs; simp -implicitDefEqProofs [*]) <;> exact rfl)
      | (with_reducible apply Wo_nil)
      | ((with_reducible apply Wo_gt); (exact rfl); ((conv => lhs; simp -implicitDefEqProofs [*]) <;> exact rfl); (conv => lhs; simp -implicitDefEqProofs [*]) <;> exact rfl)
      | ((with_reducible apply Wo_gf); (exact rfl); ((conv => lhs; simp -implicitDefEqProofs [*]) <;> exact rfl); (exact rfl))
      | ((with_reducible apply Wo_gx); (exact rfl); ((conv => lhs; simp -implicitDefEqProofs [*]) <;> exact rfl))
      | ((with_reducible apply Wo_gsT); (exact rfl); ((conv => lhs; simp -implicitDefEqProofs [*]) <;> exact rfl))
      | ((with_reducible apply Wo_gsF); (exact rfl); ((conv => lhs; simp -implicitDefEqProofs [*]) <;> exact rfl))
      | ((with_reducible apply ex2); (conv => lhs; simp -implicitDefEqProofs [*]) <;> exact rfl)
      | (with_reducible apply W_ss) | (with_reducible apply W_srl) | (with_reducible apply W_rl)
      | ((with_reducible apply W_sc); (conv => lhs; simp -implicitDefEqProofs [*]) <;> exact rfl)
      | ((with_reducible apply W_c); (conv => lhs; simp -implicitDefEqProofs [*]) <;> exact rfl)
      | ((with_reducible apply W_srdl); kernel_rfl) | ((with_reducible apply W_rdl); kernel_rfl)
      | ((with_reducible apply Wd_u); (conv => lhs; simp -implicitDefEqProofs [*]) <;> exact rfl)
      | ((with_reducible apply Wd_n); (conv => lhs; simp -implicitDefEqProofs [*]) <;> exact rfl)
      | ((with_reducible apply Wd_nil); exact rfl)
      | ((with_reducible apply Wd_gsT); (exact rfl); ((conv => lhs; simp -implicitDefEqProofs [*]) <;> exact rfl))
      | ((with_reducible apply Wd_gsF); (exact rfl); ((conv => lhs; simp -implicitDefEqProofs [*]) <;> exact rfl))
      | ((with_reducible apply ex4); (conv => lhs; simp -implicitDefEqProofs [*]) <;> exact rfl)
      | (with_reducible apply W_sblock) | (with_reducible apply W_block) | (with_reducible apply W_sskip) | (with_reducible apply W_skip) | (with_reducible apply W_sret) | (with_reducible apply W_ret) | (with_reducible apply W_sexit) | (with_reducible apply W_exit)
      | (with_reducible apply thenW_n) | (with_reducible apply thenW_r) | (with_reducible apply thenW_e) | (with_reducible apply inB_n) | (with_reducible apply inB_r) | (with_reducible apply inB_e) | ((with_reducible apply inB_o); rotate_left; exact rfl)
      | ((with_reducible apply EndQ_ret); (conv => lhs; simp -implicitDefEqProofs [*]) <;> exact rfl) | ((with_reducible apply EndQ_normal); (conv => lhs; simp -implicitDefEqProofs [*]) <;> exact rfl)
      | (intro h h'; try simp [*, -h] at h'))
    · rw [oneB_no hg (by simp [okBlk, *])]
    refine W_loopS (n := f.blocks[k].ins.length) (fun s0 m s => ∃ j : Nat, m = f.blocks[k].ins.length - j ∧ j ≤ f.blocks[k].ins.length ∧ s.fr 8 = iv j ∧ s.fr 1 = s0.fr 1 ∧ s.fr 2 = s0.fr 2 ∧ s.fr 3 = s0.fr 3 ∧ s.fr 7 = s0.fr 7 ∧ s.hp ⟨0, 3, 0⟩ = s0.hp ⟨0, 3, 0⟩ ∧ AllTo (fun t => t.fitsB number f.regs words) f.blocks[k].ins j) ⟨0, by simp, by first | omega | simp, by simp, by simp, by simp, by simp, by simp, by simp, AllTo.zero⟩ ?_
    rintro m ⟨fr, hp⟩ ⟨j, rfl, hk, hs8, hs1, hs2, hs3, hs7, hh3, hP⟩
    simp at hs8 hs1 hs2 hs3 hs7 hh3
    by_cases hlj : j < f.blocks[k].ins.length
    · have hgj := List.getElem?_eq_getElem hlj
      have hwj := wrapN (k := j) (by unfold big at hbl; omega)
      repeat' (first
        | ((with_reducible apply Wo_u); (conv => lhs; simp -implicitDefEqProofs [*]) <;> exact rfl)
        | ((with_reducible apply Wo_n); (conv => lhs; simp -implicitDefEqProofs [*]) <;> exact rfl)
        | (with_reducible apply Wo_nil)
        | ((with_reducible apply Wo_gt); (exact rfl); ((conv => lhs; simp -implicitDefEqProofs [*]) <;> exact rfl); (conv => lhs; simp -implicitDefEqProofs [*]) <;> exact rfl)
        | ((with_reducible apply Wo_gf); (exact rfl); ((conv => lhs; simp -implicitDefEqProofs [*]) <;> exact rfl); (exact rfl))
        | ((with_reducible apply Wo_gx); (exact rfl); ((conv => lhs; simp -implicitDefEqProofs [*]) <;> exact rfl))
        | ((with_reducible apply Wo_gsT); (exact rfl); ((conv => lhs; simp -implicitDefEqProofs [*]) <;> exact rfl))
        | ((with_reducible apply Wo_gsF); (exact rfl); ((conv => lhs; simp -implicitDefEqProofs [*]) <;> exact rfl))
        | ((with_reducible apply ex2); (conv => lhs; simp -implicitDefEqProofs [*]) <;> exact rfl)
        | (with_reducible apply W_ss) | (with_reducible apply W_srl) | (with_reducible apply W_rl)
        | ((with_reducible apply W_sc); (conv => lhs; simp -implicitDefEqProofs [*]) <;> exact rfl)
        | ((with_reducible apply W_c); (conv => lhs; simp -implicitDefEqProofs [*]) <;> exact rfl)
        | ((with_reducible apply W_srdl); kernel_rfl) | ((with_reducible apply W_rdl); kernel_rfl)
        | ((with_reducible apply Wd_u); (conv => lhs; simp -implicitDefEqProofs [*]) <;> exact rfl)
        | ((with_reducible apply Wd_n); (conv => lhs; simp -implicitDefEqProofs [*]) <;> exact rfl)
        | ((with_reducible apply Wd_nil); exact rfl)
        | ((with_reducible apply Wd_gsT); (exact rfl); ((conv => lhs; simp -implicitDefEqProofs [*]) <;> exact rfl))
        | ((with_reducible apply Wd_gsF); (exact rfl); ((conv => lhs; simp -implicitDefEqProofs [*]) <;> exact rfl))
        | ((with_reducible apply ex4); (conv => lhs; simp -implicitDefEqProofs [*]) <;> exact rfl)
        | (with_reducible apply W_sblock) | (with_reducible apply W_block) | (with_reducible apply W_sskip) | (with_reducible apply W_skip) | (with_reducible apply W_sret) | (with_reducible apply W_ret) | (with_reducible apply W_sexit) | (with_reducible apply W_exit)
        | (with_reducible apply thenW_n) | (with_reducible apply thenW_r) | (with_reducible apply thenW_e) | (with_reducible apply inB_n) | (with_reducible apply inB_r) | (with_reducible apply inB_e) | ((with_reducible apply inB_o); rotate_left; exact rfl)
        | ((with_reducible apply EndQ_ret); (conv => lhs; simp -implicitDefEqProofs [*]) <;> exact rfl) | ((with_reducible apply EndQ_normal); (conv => lhs; simp -implicitDefEqProofs [*]) <;> exact rfl)
        | (intro h h'; try simp [*, -h] at h'))
      · rw [oneB_no hg (okBlk_no hgj (by simpa [Tac.fitsB] using ‹fitsB _ _ _ _ _ _ _ _ _ _ _ = false›))]
      · exact ⟨_, by omega, j + 1, rfl, hlj, by simp, by simp [*], by simp [*], by simp [*], by simp [*], by simp [*], hP.succ hgj (by simpa [Tac.fitsB] using ‹fitsB _ _ _ _ _ _ _ _ _ _ _ = true›)⟩
    · obtain rfl : j = f.blocks[k].ins.length := by omega
      repeat' (first
        | ((with_reducible apply Wo_u); (conv => lhs; simp -implicitDefEqProofs [*]) <;> exact rfl)
        | ((with_reducible apply Wo_n); (conv => lhs; simp -implicitDefEqProofs [*]) <;> exact rfl)
        | (with_reducible apply Wo_nil)
        | ((with_reducible apply Wo_gt); (exact rfl); ((conv => lhs; simp -implicitDefEqProofs [*]) <;> exact rfl); (conv => lhs; simp -implicitDefEqProofs [*]) <;> exact rfl)
        | ((with_reducible apply Wo_gf); (exact rfl); ((conv => lhs; simp -implicitDefEqProofs [*]) <;> exact rfl); (exact rfl))
        | ((with_reducible apply Wo_gx); (exact rfl); ((conv => lhs; simp -implicitDefEqProofs [*]) <;> exact rfl))
        | ((with_reducible apply Wo_gsT); (exact rfl); ((conv => lhs; simp -implicitDefEqProofs [*]) <;> exact rfl))
        | ((with_reducible apply Wo_gsF); (exact rfl); ((conv => lhs; simp -implicitDefEqProofs [*]) <;> exact rfl))
        | ((with_reducible apply ex2); (conv => lhs; simp -implicitDefEqProofs [*]) <;> exact rfl)
        | (with_reducible apply W_ss) | (with_reducible apply W_srl) | (with_reducible apply W_rl)
        | ((with_reducible apply W_sc); (conv => lhs; simp -implicitDefEqProofs [*]) <;> exact rfl)
        | ((with_reducible apply W_c); (conv => lhs; simp -implicitDefEqProofs [*]) <;> exact rfl)
        | ((with_reducible apply W_srdl); kernel_rfl) | ((with_reducible apply W_rdl); kernel_rfl)
        | ((with_reducible apply Wd_u); (conv => lhs; simp -implicitDefEqProofs [*]) <;> exact rfl)
        | ((with_reducible apply Wd_n); (conv => lhs; simp -implicitDefEqProofs [*]) <;> exact rfl)
        | ((with_reducible apply Wd_nil); exact rfl)
        | ((with_reducible apply Wd_gsT); (exact rfl); ((conv => lhs; simp -implicitDefEqProofs [*]) <;> exact rfl))
        | ((with_reducible apply Wd_gsF); (exact rfl); ((conv => lhs; simp -implicitDefEqProofs [*]) <;> exact rfl))
        | ((with_reducible apply ex4); (conv => lhs; simp -implicitDefEqProofs [*]) <;> exact rfl)
        | (with_reducible apply W_sblock) | (with_reducible apply W_block) | (with_reducible apply W_sskip) | (with_reducible apply W_skip) | (with_reducible apply W_sret) | (with_reducible apply W_ret) | (with_reducible apply W_sexit) | (with_reducible apply W_exit)
        | (with_reducible apply thenW_n) | (with_reducible apply thenW_r) | (with_reducible apply thenW_e) | (with_reducible apply inB_n) | (with_reducible apply inB_r) | (with_reducible apply inB_e) | ((with_reducible apply inB_o); rotate_left; exact rfl)
        | ((with_reducible apply EndQ_ret); (conv => lhs; simp -implicitDefEqProofs [*]) <;> exact rfl) | ((with_reducible apply EndQ_normal); (conv => lhs; simp -implicitDefEqProofs [*]) <;> exact rfl)
        | (intro h h'; try simp [*, -h] at h'))
      exact ⟨_, by omega, k + 1, rfl, hlt, by simp, by simp [*], by simp [*], by simp [*], by simp [*], (by assumption : AllTo (okBlk f.blocks.length f.regs number words) f.blocks k).succ hg (okBlk_yes (by assumption) hP)⟩
  · obtain rfl : k = f.blocks.length := by omega
    repeat' (first
      | ((with_reducible apply Wo_u); (conv => lhs; simp -implicitDefEqProofs [*]) <;> exact rfl)
      | ((with_reducible apply Wo_n); (conv => lhs; simp -implicitDefEqProofs [*]) <;> exact rfl)
      | (with_reducible apply Wo_nil)
      | ((with_reducible apply Wo_gt); (exact rfl); ((conv => lhs; simp -implicitDefEqProofs [*]) <;> exact rfl); (conv => lhs; simp -implicitDefEqProofs [*]) <;> exact rfl)
      | ((with_reducible apply Wo_gf); (exact rfl); ((conv => lhs; simp -implicitDefEqProofs [*]) <;> exact rfl); (exact rfl))
      | ((with_reducible apply Wo_gx); (exact rfl); ((conv => lhs; simp -implicitDefEqProofs [*]) <;> exact rfl))
      | ((with_reducible apply Wo_gsT); (exact rfl); ((conv => lhs; simp -implicitDefEqProofs [*]) <;> exact rfl))
      | ((with_reducible apply Wo_gsF); (exact rfl); ((conv => lhs; simp -implicitDefEqProofs [*]) <;> exact rfl))
      | ((with_reducible apply ex2); (conv => lhs; simp -implicitDefEqProofs [*]) <;> exact rfl)
      | (with_reducible apply W_ss) | (with_reducible apply W_srl) | (with_reducible apply W_rl)
      | ((with_reducible apply W_sc); (conv => lhs; simp -implicitDefEqProofs [*]) <;> exact rfl)
      | ((with_reducible apply W_c); (conv => lhs; simp -implicitDefEqProofs [*]) <;> exact rfl)
      | ((with_reducible apply W_srdl); kernel_rfl) | ((with_reducible apply W_rdl); kernel_rfl)
      | ((with_reducible apply Wd_u); (conv => lhs; simp -implicitDefEqProofs [*]) <;> exact rfl)
      | ((with_reducible apply Wd_n); (conv => lhs; simp -implicitDefEqProofs [*]) <;> exact rfl)
      | ((with_reducible apply Wd_nil); exact rfl)
      | ((with_reducible apply Wd_gsT); (exact rfl); ((conv => lhs; simp -implicitDefEqProofs [*]) <;> exact rfl))
      | ((with_reducible apply Wd_gsF); (exact rfl); ((conv => lhs; simp -implicitDefEqProofs [*]) <;> exact rfl))
      | ((with_reducible apply ex4); (conv => lhs; simp -implicitDefEqProofs [*]) <;> exact rfl)
      | (with_reducible apply W_sblock) | (with_reducible apply W_block) | (with_reducible apply W_sskip) | (with_reducible apply W_skip) | (with_reducible apply W_sret) | (with_reducible apply W_ret) | (with_reducible apply W_sexit) | (with_reducible apply W_exit)
      | (with_reducible apply thenW_n) | (with_reducible apply thenW_r) | (with_reducible apply thenW_e) | (with_reducible apply inB_n) | (with_reducible apply inB_r) | (with_reducible apply inB_e) | ((with_reducible apply inB_o); rotate_left; exact rfl)
      | ((with_reducible apply EndQ_ret); (conv => lhs; simp -implicitDefEqProofs [*]) <;> exact rfl) | ((with_reducible apply EndQ_normal); (conv => lhs; simp -implicitDefEqProofs [*]) <;> exact rfl)
      | (intro h h'; try simp [*, -h] at h'))
    rw [oneB_yes hr1 hr2 (by have := ‹¬ f.blocks = []›; exact List.length_pos_iff.2 this) hP]
set_option maxHeartbeats 1000000 in
@[simp] theorem d11 (f : Fn) (ha : f.fits) : (lim Try.prog E31 X31).dat 11 [.agg [iv f.regs, .sl false 5 (f.blocks.map Blk.row)]] = some [bv (smallB f)] := by
  refine fnW Try.func11 rfl rfl bodyOk_11 rfl rtys_11 rfl ?_
  by_cases h12 : f.blocks.length ≤ 12
  · have hs := sizeN_big ha h12
    unfold big at hs
    have hd := d21 f (by omega)
    clear hs
    have e : decide ((f.blocks.length : Int) ≤ 12) = true := by simp; omega
    repeat' (first
      | ((with_reducible apply Wo_u); (conv => lhs; simp -implicitDefEqProofs [*]) <;> exact rfl)
      | ((with_reducible apply Wo_n); (conv => lhs; simp -implicitDefEqProofs [*]) <;> exact rfl)
      | (with_reducible apply Wo_nil)
      | ((with_reducible apply Wo_gt); (exact rfl); ((conv => lhs; simp -implicitDefEqProofs [*]) <;> exact rfl); (conv => lhs; simp -implicitDefEqProofs [*]) <;> exact rfl)
      | ((with_reducible apply Wo_gf); (exact rfl); ((conv => lhs; simp -implicitDefEqProofs [*]) <;> exact rfl); (exact rfl))
      | ((with_reducible apply Wo_gx); (exact rfl); ((conv => lhs; simp -implicitDefEqProofs [*]) <;> exact rfl))
      | ((with_reducible apply Wo_gsT); (exact rfl); ((conv => lhs; simp -implicitDefEqProofs [*]) <;> exact rfl))
      | ((with_reducible apply Wo_gsF); (exact rfl); ((conv => lhs; simp -implicitDefEqProofs [*]) <;> exact rfl))
      | ((with_reducible apply ex2); (conv => lhs; simp -implicitDefEqProofs [*]) <;> exact rfl)
      | (with_reducible apply W_ss) | (with_reducible apply W_srl) | (with_reducible apply W_rl)
      | ((with_reducible apply W_sc); (conv => lhs; simp -implicitDefEqProofs [*]) <;> exact rfl)
      | ((with_reducible apply W_c); (conv => lhs; simp -implicitDefEqProofs [*]) <;> exact rfl)
      | ((with_reducible apply W_srdl); kernel_rfl) | ((with_reducible apply W_rdl); kernel_rfl)
      | ((with_reducible apply Wd_u); (conv => lhs; simp -implicitDefEqProofs [*]) <;> exact rfl)
      | ((with_reducible apply Wd_n); (conv => lhs; simp -implicitDefEqProofs [*]) <;> exact rfl)
      | ((with_reducible apply Wd_nil); exact rfl)
      | ((with_reducible apply Wd_gsT); (exact rfl); ((conv => lhs; simp -implicitDefEqProofs [*]) <;> exact rfl))
      | ((with_reducible apply Wd_gsF); (exact rfl); ((conv => lhs; simp -implicitDefEqProofs [*]) <;> exact rfl))
      | ((with_reducible apply ex4); (conv => lhs; simp -implicitDefEqProofs [*]) <;> exact rfl)
      | (with_reducible apply W_sblock) | (with_reducible apply W_block) | (with_reducible apply W_sskip) | (with_reducible apply W_skip) | (with_reducible apply W_sret) | (with_reducible apply W_ret) | (with_reducible apply W_sexit) | (with_reducible apply W_exit)
      | (with_reducible apply thenW_n) | (with_reducible apply thenW_r) | (with_reducible apply thenW_e) | (with_reducible apply inB_n) | (with_reducible apply inB_r) | (with_reducible apply inB_e) | ((with_reducible apply inB_o); rotate_left; exact rfl)
      | ((with_reducible apply EndQ_ret); (conv => lhs; simp -implicitDefEqProofs [*]) <;> exact rfl) | ((with_reducible apply EndQ_normal); (conv => lhs; simp -implicitDefEqProofs [*]) <;> exact rfl)
      | (intro h h'; try simp [*, -h] at h'))
    all_goals (simp [smallB, *]; try omega)
  · have e : decide ((f.blocks.length : Int) ≤ 12) = false := by simp; omega
    repeat' (first
      | ((with_reducible apply Wo_u); (conv => lhs; simp -implicitDefEqProofs [*]) <;> exact rfl)
      | ((with_reducible apply Wo_n); (conv => lhs; simp -implicitDefEqProofs [*]) <;> exact rfl)
      | (with_reducible apply Wo_nil)
      | ((with_reducible apply Wo_gt); (exact rfl); ((conv => lhs; simp -implicitDefEqProofs [*]) <;> exact rfl); (conv => lhs; simp -implicitDefEqProofs [*]) <;> exact rfl)
      | ((with_reducible apply Wo_gf); (exact rfl); ((conv => lhs; simp -implicitDefEqProofs [*]) <;> exact rfl); (exact rfl))
      | ((with_reducible apply Wo_gx); (exact rfl); ((conv => lhs; simp -implicitDefEqProofs [*]) <;> exact rfl))
      | ((with_reducible apply Wo_gsT); (exact rfl); ((conv => lhs; simp -implicitDefEqProofs [*]) <;> exact rfl))
      | ((with_reducible apply Wo_gsF); (exact rfl); ((conv => lhs; simp -implicitDefEqProofs [*]) <;> exact rfl))
      | ((with_reducible apply ex2); (conv => lhs; simp -implicitDefEqProofs [*]) <;> exact rfl)
      | (with_reducible apply W_ss) | (with_reducible apply W_srl) | (with_reducible apply W_rl)
      | ((with_reducible apply W_sc); (conv => lhs; simp -implicitDefEqProofs [*]) <;> exact rfl)
      | ((with_reducible apply W_c); (conv => lhs; simp -implicitDefEqProofs [*]) <;> exact rfl)
      | ((with_reducible apply W_srdl); kernel_rfl) | ((with_reducible apply W_rdl); kernel_rfl)
      | ((with_reducible apply Wd_u); (conv => lhs; simp -implicitDefEqProofs [*]) <;> exact rfl)
      | ((with_reducible apply Wd_n); (conv => lhs; simp -implicitDefEqProofs [*]) <;> exact rfl)
      | ((with_reducible apply Wd_nil); exact rfl)
      | ((with_reducible apply Wd_gsT); (exact rfl); ((conv => lhs; simp -implicitDefEqProofs [*]) <;> exact rfl))
      | ((with_reducible apply Wd_gsF); (exact rfl); ((conv => lhs; simp -implicitDefEqProofs [*]) <;> exact rfl))
      | ((with_reducible apply ex4); (conv => lhs; simp -implicitDefEqProofs [*]) <;> exact rfl)
      | (with_reducible apply W_sblock) | (with_reducible apply W_block) | (with_reducible apply W_sskip) | (with_reducible apply W_skip) | (with_reducible apply W_sret) | (with_reducible apply W_ret) | (with_reducible apply W_sexit) | (with_reducible apply W_exit)
      | (with_reducible apply thenW_n) | (with_reducible apply thenW_r) | (with_reducible apply thenW_e) | (with_reducible apply inB_n) | (with_reducible apply inB_r) | (with_reducible apply inB_e) | ((with_reducible apply inB_o); rotate_left; exact rfl)
      | ((with_reducible apply EndQ_ret); (conv => lhs; simp -implicitDefEqProofs [*]) <;> exact rfl) | ((with_reducible apply EndQ_normal); (conv => lhs; simp -implicitDefEqProofs [*]) <;> exact rfl)
      | (intro h h'; try simp [*, -h] at h'))
    all_goals simp [smallB, h12]
end Go.Proofs.Ytmfhdhiaokejdaa

namespace Go.Proofs.Ytmfhdhiaokejdaa
open Go Go.Ab
set_option linter.unusedSimpArgs false
set_option linter.unusedVariables false
set_option maxHeartbeats 1000000 in
@[simp] theorem d17 (same : List (List Bool)) (blocks regs : Int) (hl : same.length ≤ big) (hl2 : ∀ l ∈ same, l.length ≤ big) : (lim Try.prog E31 X31).dat 17 [.agg [.sl false 1 (same.map fun l => [.sl false 1 (l.map fun x => [bv x])])], iv blocks, iv regs] = some [bv (fullB same blocks regs)] := by
  refine fnW Try.func17 rfl rfl bodyOk_17 rfl rtys_17 rfl ?_
  repeat' (first
    | ((with_reducible apply Wo_u); (conv => lhs; simp -implicitDefEqProofs [*]) <;> exact rfl)
    | ((with_reducible apply Wo_n); (conv => lhs; simp -implicitDefEqProofs [*]) <;> exact rfl)
    | (with_reducible apply Wo_nil)
    | ((with_reducible apply Wo_gt); (exact rfl); ((conv => lhs; simp -implicitDefEqProofs [*]) <;> exact rfl); (conv => lhs; simp -implicitDefEqProofs [*]) <;> exact rfl)
    | ((with_reducible apply Wo_gf); (exact rfl); ((conv => lhs; simp -implicitDefEqProofs [*]) <;> exact rfl); (exact rfl))
    | ((with_reducible apply Wo_gx); (exact rfl); ((conv => lhs; simp -implicitDefEqProofs [*]) <;> exact rfl))
    | ((with_reducible apply Wo_gsT); (exact rfl); ((conv => lhs; simp -implicitDefEqProofs [*]) <;> exact rfl))
    | ((with_reducible apply Wo_gsF); (exact rfl); ((conv => lhs; simp -implicitDefEqProofs [*]) <;> exact rfl))
    | ((with_reducible apply ex2); (conv => lhs; simp -implicitDefEqProofs [*]) <;> exact rfl)
    | (with_reducible apply W_ss) | (with_reducible apply W_srl) | (with_reducible apply W_rl)
    | ((with_reducible apply W_sc); (conv => lhs; simp -implicitDefEqProofs [*]) <;> exact rfl)
    | ((with_reducible apply W_c); (conv => lhs; simp -implicitDefEqProofs [*]) <;> exact rfl)
    | ((with_reducible apply W_srdl); kernel_rfl) | ((with_reducible apply W_rdl); kernel_rfl)
    | ((with_reducible apply Wd_u); (conv => lhs; simp -implicitDefEqProofs [*]) <;> exact rfl)
    | ((with_reducible apply Wd_n); (conv => lhs; simp -implicitDefEqProofs [*]) <;> exact rfl)
    | ((with_reducible apply Wd_nil); exact rfl)
    | ((with_reducible apply Wd_gsT); (exact rfl); ((conv => lhs; simp -implicitDefEqProofs [*]) <;> exact rfl))
    | ((with_reducible apply Wd_gsF); (exact rfl); ((conv => lhs; simp -implicitDefEqProofs [*]) <;> exact rfl))
    | ((with_reducible apply ex4); (conv => lhs; simp -implicitDefEqProofs [*]) <;> exact rfl)
    | (with_reducible apply W_sblock) | (with_reducible apply W_block) | (with_reducible apply W_sskip) | (with_reducible apply W_skip) | (with_reducible apply W_sret) | (with_reducible apply W_ret) | (with_reducible apply W_sexit) | (with_reducible apply W_exit)
    | (with_reducible apply thenW_n) | (with_reducible apply thenW_r) | (with_reducible apply thenW_e) | (with_reducible apply inB_n) | (with_reducible apply inB_r) | (with_reducible apply inB_e) | ((with_reducible apply inB_o); rotate_left; exact rfl)
    | ((with_reducible apply EndQ_ret); (conv => lhs; simp -implicitDefEqProofs [*]) <;> exact rfl) | ((with_reducible apply EndQ_normal); (conv => lhs; simp -implicitDefEqProofs [*]) <;> exact rfl)
    | (intro h h'; try simp [*, -h] at h'))
  · rw [fullB_no1 (by assumption)]
  obtain rfl : (same.length : Int) = blocks := by assumption
  refine W_loopS (n := same.length) (fun s0 m s => ∃ k : Nat, m = same.length - k ∧ k ≤ same.length ∧ s.fr 7 = iv k ∧ s.fr 1 = s0.fr 1 ∧ s.fr 2 = s0.fr 2 ∧ s.fr 3 = s0.fr 3 ∧ s.hp ⟨0, 3, 0⟩ = s0.hp ⟨0, 3, 0⟩ ∧ AllTo (fun l : List Bool => (l.length : Int) == regs && l.all fun x => x) same k) ⟨0, by simp, by first | omega | simp, by simp, by simp, by simp, by simp, by simp, AllTo.zero⟩ ?_
  rintro m ⟨fr, hp⟩ ⟨k, rfl, hk, hs7, hs1, hs2, hs3, hh3, hP⟩
  simp at hs7 hs1 hs2 hs3 hh3
  by_cases hlt : k < same.length
  · have hg := List.getElem?_eq_getElem hlt
    have hw := wrapN (k := k) (by unfold big at hl; omega)
    have hbl := hl2 _ (List.getElem_mem hlt)
    repeat' (first
      | ((with_reducible apply Wo_u); (conv => lhs; simp -implicitDefEqProofs [*]) <;> exact rfl)
      | ((with_reducible apply Wo_n); (conv => lhs; simp -implicitDefEqProofs [*]) <;> exact rfl)
      | (with_reducible apply Wo_nil)
      | ((with_reducible apply Wo_gt); (exact rfl); ((conv => lhs; simp -implicitDefEqProofs [*]) <;> exact rfl); (conv => lhs; simp -implicitDefEqProofs [*]) <;> exact rfl)
      | ((with_reducible apply Wo_gf); (exact rfl); ((conv => lhs; simp -implicitDefEqProofs [*]) <;> exact rfl); (exact rfl))
      | ((with_reducible apply Wo_gx); (exact rfl); ((conv => lhs; simp -implicitDefEqProofs [*]) <;> exact rfl))
      | ((with_reducible apply Wo_gsT); (exact rfl); ((conv => lhs; simp -implicitDefEqProofs [*]) <;> exact rfl))
      | ((with_reducible apply Wo_gsF); (exact rfl); ((conv => lhs; simp -implicitDefEqProofs [*]) <;> exact rfl))
      | ((with_reducible apply ex2); (conv => lhs; simp -implicitDefEqProofs [*]) <;> exact rfl)
      | (with_reducible apply W_ss) | (with_reducible apply W_srl) | (with_reducible apply W_rl)
      | ((with_reducible apply W_sc); (conv => lhs; simp -implicitDefEqProofs [*]) <;> exact rfl)
      | ((with_reducible apply W_c); (conv => lhs; simp -implicitDefEqProofs [*]) <;> exact rfl)
      | ((with_reducible apply W_srdl); kernel_rfl) | ((with_reducible apply W_rdl); kernel_rfl)
      | ((with_reducible apply Wd_u); (conv => lhs; simp -implicitDefEqProofs [*]) <;> exact rfl)
      | ((with_reducible apply Wd_n); (conv => lhs; simp -implicitDefEqProofs [*]) <;> exact rfl)
      | ((with_reducible apply Wd_nil); exact rfl)
      | ((with_reducible apply Wd_gsT); (exact rfl); ((conv => lhs; simp -implicitDefEqProofs [*]) <;> exact rfl))
      | ((with_reducible apply Wd_gsF); (exact rfl); ((conv => lhs; simp -implicitDefEqProofs [*]) <;> exact rfl))
      | ((with_reducible apply ex4); (conv => lhs; simp -implicitDefEqProofs [*]) <;> exact rfl)
      | (with_reducible apply W_sblock) | (with_reducible apply W_block) | (with_reducible apply W_sskip) | (with_reducible apply W_skip) | (with_reducible apply W_sret) | (with_reducible apply W_ret) | (with_reducible apply W_sexit) | (with_reducible apply W_exit)
      | (with_reducible apply thenW_n) | (with_reducible apply thenW_r) | (with_reducible apply thenW_e) | (with_reducible apply inB_n) | (with_reducible apply inB_r) | (with_reducible apply inB_e) | ((with_reducible apply inB_o); rotate_left; exact rfl)
      | ((with_reducible apply EndQ_ret); (conv => lhs; simp -implicitDefEqProofs [*]) <;> exact rfl) | ((with_reducible apply EndQ_normal); (conv => lhs; simp -implicitDefEqProofs [*]) <;> exact rfl)
      | (intro h h'; try simp [*, -h] at h'))
    · rw [fullB_no hg (by simp [*])]
    obtain rfl : (same[k].length : Int) = regs := by assumption
    refine W_loopS (n := same[k].length) (fun s0 m s => ∃ j : Nat, m = same[k].length - j ∧ j ≤ same[k].length ∧ s.fr 8 = iv j ∧ s.fr 1 = s0.fr 1 ∧ s.fr 2 = s0.fr 2 ∧ s.fr 3 = s0.fr 3 ∧ s.fr 7 = s0.fr 7 ∧ s.hp ⟨0, 3, 0⟩ = s0.hp ⟨0, 3, 0⟩ ∧ AllTo (fun x : Bool => x) same[k] j) ⟨0, by simp, by first | omega | simp, by simp, by simp, by simp, by simp, by simp, by simp, AllTo.zero⟩ ?_
    rintro m ⟨fr, hp⟩ ⟨j, rfl, hk, hs8, hs1, hs2, hs3, hs7, hh3, hP⟩
    simp at hs8 hs1 hs2 hs3 hs7 hh3
    by_cases hlj : j < same[k].length
    · have hgj := List.getElem?_eq_getElem hlj
      have hwj := wrapN (k := j) (by unfold big at hbl; omega)
      repeat' (first
        | ((with_reducible apply Wo_u); (conv => lhs; simp -implicitDefEqProofs [*]) <;> exact rfl)
        | ((with_reducible apply Wo_n); (conv => lhs; simp -implicitDefEqProofs [*]) <;> exact rfl)
        | (with_reducible apply Wo_nil)
        | ((with_reducible apply Wo_gt); (exact rfl); ((conv => lhs; simp -implicitDefEqProofs [*]) <;> exact rfl); (conv => lhs; simp -implicitDefEqProofs [*]) <;> exact rfl)
        | ((with_reducible apply Wo_gf); (exact rfl); ((conv => lhs; simp -implicitDefEqProofs [*]) <;> exact rfl); (exact rfl))
        | ((with_reducible apply Wo_gx); (exact rfl); ((conv => lhs; simp -implicitDefEqProofs [*]) <;> exact rfl))
        | ((with_reducible apply Wo_gsT); (exact rfl); ((conv => lhs; simp -implicitDefEqProofs [*]) <;> exact rfl))
        | ((with_reducible apply Wo_gsF); (exact rfl); ((conv => lhs; simp -implicitDefEqProofs [*]) <;> exact rfl))
        | ((with_reducible apply ex2); (conv => lhs; simp -implicitDefEqProofs [*]) <;> exact rfl)
        | (with_reducible apply W_ss) | (with_reducible apply W_srl) | (with_reducible apply W_rl)
        | ((with_reducible apply W_sc); (conv => lhs; simp -implicitDefEqProofs [*]) <;> exact rfl)
        | ((with_reducible apply W_c); (conv => lhs; simp -implicitDefEqProofs [*]) <;> exact rfl)
        | ((with_reducible apply W_srdl); kernel_rfl) | ((with_reducible apply W_rdl); kernel_rfl)
        | ((with_reducible apply Wd_u); (conv => lhs; simp -implicitDefEqProofs [*]) <;> exact rfl)
        | ((with_reducible apply Wd_n); (conv => lhs; simp -implicitDefEqProofs [*]) <;> exact rfl)
        | ((with_reducible apply Wd_nil); exact rfl)
        | ((with_reducible apply Wd_gsT); (exact rfl); ((conv => lhs; simp -implicitDefEqProofs [*]) <;> exact rfl))
        | ((with_reducible apply Wd_gsF); (exact rfl); ((conv => lhs; simp -implicitDefEqProofs [*]) <;> exact rfl))
        | ((with_reducible apply ex4); (conv => lhs; simp -implicitDefEqProofs [*]) <;> exact rfl)
        | (with_reducible apply W_sblock) | (with_reducible apply W_block) | (with_reducible apply W_sskip) | (with_reducible apply W_skip) | (with_reducible apply W_sret) | (with_reducible apply W_ret) | (with_reducible apply W_sexit) | (with_reducible apply W_exit)
        | (with_reducible apply thenW_n) | (with_reducible apply thenW_r) | (with_reducible apply thenW_e) | (with_reducible apply inB_n) | (with_reducible apply inB_r) | (with_reducible apply inB_e) | ((with_reducible apply inB_o); rotate_left; exact rfl)
        | ((with_reducible apply EndQ_ret); (conv => lhs; simp -implicitDefEqProofs [*]) <;> exact rfl) | ((with_reducible apply EndQ_normal); (conv => lhs; simp -implicitDefEqProofs [*]) <;> exact rfl)
        | (intro h h'; try simp [*, -h] at h'))
      · rw [fullB_no hg (by rw [not_all hgj (by assumption)]; simp)]
      · exact ⟨_, by omega, j + 1, rfl, hlj, by simp, by simp [*], by simp [*], by simp [*], by simp [*], by simp [*], hP.succ hgj (by assumption)⟩
    · obtain rfl : j = same[k].length := by omega
      repeat' (first
        | ((with_reducible apply Wo_u); (conv => lhs; simp -implicitDefEqProofs [*]) <;> exact rfl)
        | ((with_reducible apply Wo_n); (conv => lhs; simp -implicitDefEqProofs [*]) <;> exact rfl)
        | (with_reducible apply Wo_nil)
        | ((with_reducible apply Wo_gt); (exact rfl); ((conv => lhs; simp -implicitDefEqProofs [*]) <;> exact rfl); (conv => lhs; simp -implicitDefEqProofs [*]) <;> exact rfl)
        | ((with_reducible apply Wo_gf); (exact rfl); ((conv => lhs; simp -implicitDefEqProofs [*]) <;> exact rfl); (exact rfl))
        | ((with_reducible apply Wo_gx); (exact rfl); ((conv => lhs; simp -implicitDefEqProofs [*]) <;> exact rfl))
        | ((with_reducible apply Wo_gsT); (exact rfl); ((conv => lhs; simp -implicitDefEqProofs [*]) <;> exact rfl))
        | ((with_reducible apply Wo_gsF); (exact rfl); ((conv => lhs; simp -implicitDefEqProofs [*]) <;> exact rfl))
        | ((with_reducible apply ex2); (conv => lhs; simp -implicitDefEqProofs [*]) <;> exact rfl)
        | (with_reducible apply W_ss) | (with_reducible apply W_srl) | (with_reducible apply W_rl)
        | ((with_reducible apply W_sc); (conv => lhs; simp -implicitDefEqProofs [*]) <;> exact rfl)
        | ((with_reducible apply W_c); (conv => lhs; simp -implicitDefEqProofs [*]) <;> exact rfl)
        | ((with_reducible apply W_srdl); kernel_rfl) | ((with_reducible apply W_rdl); kernel_rfl)
        | ((with_reducible apply Wd_u); (conv => lhs; simp -implicitDefEqProofs [*]) <;> exact rfl)
        | ((with_reducible apply Wd_n); (conv => lhs; simp -implicitDefEqProofs [*]) <;> exact rfl)
        | ((with_reducible apply Wd_nil); exact rfl)
        | ((with_reducible apply Wd_gsT); (exact rfl); ((conv => lhs; simp -implicitDefEqProofs [*]) <;> exact rfl))
        | ((with_reducible apply Wd_gsF); (exact rfl); ((conv => lhs; simp -implicitDefEqProofs [*]) <;> exact rfl))
        | ((with_reducible apply ex4); (conv => lhs; simp -implicitDefEqProofs [*]) <;> exact rfl)
        | (with_reducible apply W_sblock) | (with_reducible apply W_block) | (with_reducible apply W_sskip) | (with_reducible apply W_skip) | (with_reducible apply W_sret) | (with_reducible apply W_ret) | (with_reducible apply W_sexit) | (with_reducible apply W_exit)
        | (with_reducible apply thenW_n) | (with_reducible apply thenW_r) | (with_reducible apply thenW_e) | (with_reducible apply inB_n) | (with_reducible apply inB_r) | (with_reducible apply inB_e) | ((with_reducible apply inB_o); rotate_left; exact rfl)
        | ((with_reducible apply EndQ_ret); (conv => lhs; simp -implicitDefEqProofs [*]) <;> exact rfl) | ((with_reducible apply EndQ_normal); (conv => lhs; simp -implicitDefEqProofs [*]) <;> exact rfl)
        | (intro h h'; try simp [*, -h] at h'))
      exact ⟨_, by omega, k + 1, rfl, hlt, by simp, by simp [*], by simp [*], by simp [*], by simp [*], (by assumption : AllTo (fun l : List Bool => (l.length : Int) == (same[k].length : Int) && l.all fun x => x) same k).succ hg (by rw [hP.all]; simp)⟩
  · obtain rfl : k = same.length := by omega
    repeat' (first
      | ((with_reducible apply Wo_u); (conv => lhs; simp -implicitDefEqProofs [*]) <;> exact rfl)
      | ((with_reducible apply Wo_n); (conv => lhs; simp -implicitDefEqProofs [*]) <;> exact rfl)
      | (with_reducible apply Wo_nil)
      | ((with_reducible apply Wo_gt); (exact rfl); ((conv => lhs; simp -implicitDefEqProofs [*]) <;> exact rfl); (conv => lhs; simp -implicitDefEqProofs [*]) <;> exact rfl)
      | ((with_reducible apply Wo_gf); (exact rfl); ((conv => lhs; simp -implicitDefEqProofs [*]) <;> exact rfl); (exact rfl))
      | ((with_reducible apply Wo_gx); (exact rfl); ((conv => lhs; simp -implicitDefEqProofs [*]) <;> exact rfl))
      | ((with_reducible apply Wo_gsT); (exact rfl); ((conv => lhs; simp -implicitDefEqProofs [*]) <;> exact rfl))
      | ((with_reducible apply Wo_gsF); (exact rfl); ((conv => lhs; simp -implicitDefEqProofs [*]) <;> exact rfl))
      | ((with_reducible apply ex2); (conv => lhs; simp -implicitDefEqProofs [*]) <;> exact rfl)
      | (with_reducible apply W_ss) | (with_reducible apply W_srl) | (with_reducible apply W_rl)
      | ((with_reducible apply W_sc); (conv => lhs; simp -implicitDefEqProofs [*]) <;> exact rfl)
      | ((with_reducible apply W_c); (conv => lhs; simp -implicitDefEqProofs [*]) <;> exact rfl)
      | ((with_reducible apply W_srdl); kernel_rfl) | ((with_reducible apply W_rdl); kernel_rfl)
      | ((with_reducible apply Wd_u); (conv => lhs; simp -implicitDefEqProofs [*]) <;> exact rfl)
      | ((with_reducible apply Wd_n); (conv => lhs; simp -implicitDefEqProofs [*]) <;> exact rfl)
      | ((with_reducible apply Wd_nil); exact rfl)
      | ((with_reducible apply Wd_gsT); (exact rfl); ((conv => lhs; simp -implicitDefEqProofs [*]) <;> exact rfl))
      | ((with_reducible apply Wd_gsF); (exact rfl); ((conv => lhs; simp -implicitDefEqProofs [*]) <;> exact rfl))
      | ((with_reducible apply ex4); (conv => lhs; simp -implicitDefEqProofs [*]) <;> exact rfl)
      | (with_reducible apply W_sblock) | (with_reducible apply W_block) | (with_reducible apply W_sskip) | (with_reducible apply W_skip) | (with_reducible apply W_sret) | (with_reducible apply W_ret) | (with_reducible apply W_sexit) | (with_reducible apply W_exit)
      | (with_reducible apply thenW_n) | (with_reducible apply thenW_r) | (with_reducible apply thenW_e) | (with_reducible apply inB_n) | (with_reducible apply inB_r) | (with_reducible apply inB_e) | ((with_reducible apply inB_o); rotate_left; exact rfl)
      | ((with_reducible apply EndQ_ret); (conv => lhs; simp -implicitDefEqProofs [*]) <;> exact rfl) | ((with_reducible apply EndQ_normal); (conv => lhs; simp -implicitDefEqProofs [*]) <;> exact rfl)
      | (intro h h'; try simp [*, -h] at h'))
    rw [fullB_yes rfl hP]
set_option maxHeartbeats 1000000 in
@[simp] theorem d33 (l : List Int) (v : Nat) (x : Int) (hg : l[v]? = some x) : (lim Try.prog E31 X31).dat 33 [.sl false 1 (l.map fun x => [iv x]), iv v] = some [iv x] := by
  refine fnW Try.func33 rfl rfl bodyOk_33 rfl rtys_33 rfl ?_
  repeat' (first
    | ((with_reducible apply Wo_u); (conv => lhs; simp -implicitDefEqProofs [*]) <;> exact rfl)
    | ((with_reducible apply Wo_n); (conv => lhs; simp -implicitDefEqProofs [*]) <;> exact rfl)
    | (with_reducible apply Wo_nil)
    | ((with_reducible apply Wo_gt); (exact rfl); ((conv => lhs; simp -implicitDefEqProofs [*]) <;> exact rfl); (conv => lhs; simp -implicitDefEqProofs [*]) <;> exact rfl)
    | ((with_reducible apply Wo_gf); (exact rfl); ((conv => lhs; simp -implicitDefEqProofs [*]) <;> exact rfl); (exact rfl))
    | ((with_reducible apply Wo_gx); (exact rfl); ((conv => lhs; simp -implicitDefEqProofs [*]) <;> exact rfl))
    | ((with_reducible apply Wo_gsT); (exact rfl); ((conv => lhs; simp -implicitDefEqProofs [*]) <;> exact rfl))
    | ((with_reducible apply Wo_gsF); (exact rfl); ((conv => lhs; simp -implicitDefEqProofs [*]) <;> exact rfl))
    | ((with_reducible apply ex2); (conv => lhs; simp -implicitDefEqProofs [*]) <;> exact rfl)
    | (with_reducible apply W_ss) | (with_reducible apply W_srl) | (with_reducible apply W_rl)
    | ((with_reducible apply W_sc); (conv => lhs; simp -implicitDefEqProofs [*]) <;> exact rfl)
    | ((with_reducible apply W_c); (conv => lhs; simp -implicitDefEqProofs [*]) <;> exact rfl)
    | ((with_reducible apply W_srdl); kernel_rfl) | ((with_reducible apply W_rdl); kernel_rfl)
    | ((with_reducible apply Wd_u); (conv => lhs; simp -implicitDefEqProofs [*]) <;> exact rfl)
    | ((with_reducible apply Wd_n); (conv => lhs; simp -implicitDefEqProofs [*]) <;> exact rfl)
    | ((with_reducible apply Wd_nil); exact rfl)
    | ((with_reducible apply Wd_gsT); (exact rfl); ((conv => lhs; simp -implicitDefEqProofs [*]) <;> exact rfl))
    | ((with_reducible apply Wd_gsF); (exact rfl); ((conv => lhs; simp -implicitDefEqProofs [*]) <;> exact rfl))
    | ((with_reducible apply ex4); (conv => lhs; simp -implicitDefEqProofs [*]) <;> exact rfl)
    | (with_reducible apply W_sblock) | (with_reducible apply W_block) | (with_reducible apply W_sskip) | (with_reducible apply W_skip) | (with_reducible apply W_sret) | (with_reducible apply W_ret) | (with_reducible apply W_sexit) | (with_reducible apply W_exit)
    | (with_reducible apply thenW_n) | (with_reducible apply thenW_r) | (with_reducible apply thenW_e) | (with_reducible apply inB_n) | (with_reducible apply inB_r) | (with_reducible apply inB_e) | ((with_reducible apply inB_o); rotate_left; exact rfl)
    | ((with_reducible apply EndQ_ret); (conv => lhs; simp -implicitDefEqProofs [*]) <;> exact rfl) | ((with_reducible apply EndQ_normal); (conv => lhs; simp -implicitDefEqProofs [*]) <;> exact rfl)
    | (intro h h'; try simp [*, -h] at h'))
  rfl
set_option maxHeartbeats 1000000 in
@[simp] theorem d28 (b : Blk) (hi : Nat) (v : Int) (hb : b.ins.length ≤ big) (hh : hi ≤ b.ins.length) : (lim Try.prog E31 X31).dat 28 [.agg [.sl false 8 (b.ins.map Tac.row), iv b.en, iv b.v, iv b.to, iv b.el], iv hi, iv v] = some [bv (copyB b hi v)] := by
  refine fnW Try.func28 rfl rfl bodyOk_28 rfl rtys_28 rfl ?_
  have hw0 : IntKind.i64.wrap ((hi : Int) - 1) = (hi : Int) - 1 := wrap64 (by unfold big at hb; omega) (by unfold big at hb; omega)
  repeat' (first
    | ((with_reducible apply Wo_u); (conv => lhs; simp -implicitDefEqProofs [*]) <;> exact rfl)
    | ((with_reducible apply Wo_n); (conv => lhs; simp -implicitDefEqProofs [*]) <;> exact rfl)
    | (with_reducible apply Wo_nil)
    | ((with_reducible apply Wo_gt); (exact rfl); ((conv => lhs; simp -implicitDefEqProofs [*]) <;> exact rfl); (conv => lhs; simp -implicitDefEqProofs [*]) <;> exact rfl)
    | ((with_reducible apply Wo_gf); (exact rfl); ((conv => lhs; simp -implicitDefEqProofs [*]) <;> exact rfl); (exact rfl))
    | ((with_reducible apply Wo_gx); (exact rfl); ((conv => lhs; simp -implicitDefEqProofs [*]) <;> exact rfl))
    | ((with_reducible apply Wo_gsT); (exact rfl); ((conv => lhs; simp -implicitDefEqProofs [*]) <;> exact rfl))
    | ((with_reducible apply Wo_gsF); (exact rfl); ((conv => lhs; simp -implicitDefEqProofs [*]) <;> exact rfl))
    | ((with_reducible apply ex2); (conv => lhs; simp -implicitDefEqProofs [*]) <;> exact rfl)
    | (with_reducible apply W_ss) | (with_reducible apply W_srl) | (with_reducible apply W_rl)
    | ((with_reducible apply W_sc); (conv => lhs; simp -implicitDefEqProofs [*]) <;> exact rfl)
    | ((with_reducible apply W_c); (conv => lhs; simp -implicitDefEqProofs [*]) <;> exact rfl)
    | ((with_reducible apply W_srdl); kernel_rfl) | ((with_reducible apply W_rdl); kernel_rfl)
    | ((with_reducible apply Wd_u); (conv => lhs; simp -implicitDefEqProofs [*]) <;> exact rfl)
    | ((with_reducible apply Wd_n); (conv => lhs; simp -implicitDefEqProofs [*]) <;> exact rfl)
    | ((with_reducible apply Wd_nil); exact rfl)
    | ((with_reducible apply Wd_gsT); (exact rfl); ((conv => lhs; simp -implicitDefEqProofs [*]) <;> exact rfl))
    | ((with_reducible apply Wd_gsF); (exact rfl); ((conv => lhs; simp -implicitDefEqProofs [*]) <;> exact rfl))
    | ((with_reducible apply ex4); (conv => lhs; simp -implicitDefEqProofs [*]) <;> exact rfl)
    | (with_reducible apply W_sblock) | (with_reducible apply W_block) | (with_reducible apply W_sskip) | (with_reducible apply W_skip) | (with_reducible apply W_sret) | (with_reducible apply W_ret) | (with_reducible apply W_sexit) | (with_reducible apply W_exit)
    | (with_reducible apply thenW_n) | (with_reducible apply thenW_r) | (with_reducible apply thenW_e) | (with_reducible apply inB_n) | (with_reducible apply inB_r) | (with_reducible apply inB_e) | ((with_reducible apply inB_o); rotate_left; exact rfl)
    | ((with_reducible apply EndQ_ret); (conv => lhs; simp -implicitDefEqProofs [*]) <;> exact rfl) | ((with_reducible apply EndQ_normal); (conv => lhs; simp -implicitDefEqProofs [*]) <;> exact rfl)
    | (intro h h'; try simp [*, -h] at h'))
  refine W_loopS (n := hi) (fun s0 m s => ∃ k : Nat, m = k ∧ k ≤ hi ∧ s.fr 7 = iv ((k : Int) - 1) ∧ s.fr 1 = s0.fr 1 ∧ s.fr 2 = s0.fr 2 ∧ s.fr 3 = s0.fr 3 ∧ s.hp ⟨0, 3, 0⟩ = s0.hp ⟨0, 3, 0⟩ ∧ copyB b hi v = copyFrom b.ins v hi k) ⟨hi, by simp, by first | omega | simp, by simp, by simp, by simp, by simp, by simp, rfl⟩ ?_
  rintro m ⟨fr, hp⟩ ⟨k, rfl, hk, hs7, hs1, hs2, hs3, hh3, hP⟩
  simp at hs7 hs1 hs2 hs3 hh3
  cases m with
  | zero =>
    simp at hs7
    repeat' (first
      | ((with_reducible apply Wo_u); (conv => lhs; simp -implicitDefEqProofs [*]) <;> exact rfl)
      | ((with_reducible apply Wo_n); (conv => lhs; simp -implicitDefEqProofs [*]) <;> exact rfl)
      | (with_reducible apply Wo_nil)
      | ((with_reducible apply Wo_gt); (exact rfl); ((conv => lhs; simp -implicitDefEqProofs [*]) <;> exact rfl); (conv => lhs; simp -implicitDefEqProofs [*]) <;> exact rfl)
      | ((with_reducible apply Wo_gf); (exact rfl); ((conv => lhs; simp -implicitDefEqProofs [*]) <;> exact rfl); (exact rfl))
      | ((with_reducible apply Wo_gx); (exact rfl); ((conv => lhs; simp -implicitDefEqProofs [*]) <;> exact rfl))
      | ((with_reducible apply Wo_gsT); (exact rfl); ((conv => lhs; simp -implicitDefEqProofs [*]) <;> exact rfl))
      | ((with_reducible apply Wo_gsF); (exact rfl); ((conv => lhs; simp -implicitDefEqProofs [*]) <;> exact rfl))
      | ((with_reducible apply ex2); (conv => lhs; simp -implicitDefEqProofs [*]) <;> exact rfl)
      | (with_reducible apply W_ss) | (with_reducible apply W_srl) | (with_reducible apply W_rl)
      | ((with_reducible apply W_sc); (conv => lhs; simp -implicitDefEqProofs [*]) <;> exact rfl)
      | ((with_reducible apply W_c); (conv => lhs; simp -implicitDefEqProofs [*]) <;> exact rfl)
      | ((with_reducible apply W_srdl); kernel_rfl) | ((with_reducible apply W_rdl); kernel_rfl)
      | ((with_reducible apply Wd_u); (conv => lhs; simp -implicitDefEqProofs [*]) <;> exact rfl)
      | ((with_reducible apply Wd_n); (conv => lhs; simp -implicitDefEqProofs [*]) <;> exact rfl)
      | ((with_reducible apply Wd_nil); exact rfl)
      | ((with_reducible apply Wd_gsT); (exact rfl); ((conv => lhs; simp -implicitDefEqProofs [*]) <;> exact rfl))
      | ((with_reducible apply Wd_gsF); (exact rfl); ((conv => lhs; simp -implicitDefEqProofs [*]) <;> exact rfl))
      | ((with_reducible apply ex4); (conv => lhs; simp -implicitDefEqProofs [*]) <;> exact rfl)
      | (with_reducible apply W_sblock) | (with_reducible apply W_block) | (with_reducible apply W_sskip) | (with_reducible apply W_skip) | (with_reducible apply W_sret) | (with_reducible apply W_ret) | (with_reducible apply W_sexit) | (with_reducible apply W_exit)
      | (with_reducible apply thenW_n) | (with_reducible apply thenW_r) | (with_reducible apply thenW_e) | (with_reducible apply inB_n) | (with_reducible apply inB_r) | (with_reducible apply inB_e) | ((with_reducible apply inB_o); rotate_left; exact rfl)
      | ((with_reducible apply EndQ_ret); (conv => lhs; simp -implicitDefEqProofs [*]) <;> exact rfl) | ((with_reducible apply EndQ_normal); (conv => lhs; simp -implicitDefEqProofs [*]) <;> exact rfl)
      | (intro h h'; try simp [*, -h] at h'))
    simp [hP, copyFrom]
  | succ n =>
    simp at hs7
    have hlt : n < b.ins.length := by omega
    have hg := List.getElem?_eq_getElem hlt
    have hw1 : IntKind.i64.wrap ((n : Int) - 1) = (n : Int) - 1 := wrap64 (by unfold big at hb; omega) (by unfold big at hb; omega)
    have hw2 := wrapN (k := n) (by unfold big at hb; omega)
    have hc := copyFrom_succ (v := v) (hi := hi) hg
    unfold Tac.sets at hc
    repeat' (first
      | ((with_reducible apply Wo_u); (conv => lhs; simp -implicitDefEqProofs [*]) <;> exact rfl)
      | ((with_reducible apply Wo_n); (conv => lhs; simp -implicitDefEqProofs [*]) <;> exact rfl)
      | (with_reducible apply Wo_nil)
      | ((with_reducible apply Wo_gt); (exact rfl); ((conv => lhs; simp -implicitDefEqProofs [*]) <;> exact rfl); (conv => lhs; simp -implicitDefEqProofs [*]) <;> exact rfl)
      | ((with_reducible apply Wo_gf); (exact rfl); ((conv => lhs; simp -implicitDefEqProofs [*]) <;> exact rfl); (exact rfl))
      | ((with_reducible apply Wo_gx); (exact rfl); ((conv => lhs; simp -implicitDefEqProofs [*]) <;> exact rfl))
      | ((with_reducible apply Wo_gsT); (exact rfl); ((conv => lhs; simp -implicitDefEqProofs [*]) <;> exact rfl))
      | ((with_reducible apply Wo_gsF); (exact rfl); ((conv => lhs; simp -implicitDefEqProofs [*]) <;> exact rfl))
      | ((with_reducible apply ex2); (conv => lhs; simp -implicitDefEqProofs [*]) <;> exact rfl)
      | (with_reducible apply W_ss) | (with_reducible apply W_srl) | (with_reducible apply W_rl)
      | ((with_reducible apply W_sc); (conv => lhs; simp -implicitDefEqProofs [*]) <;> exact rfl)
      | ((with_reducible apply W_c); (conv => lhs; simp -implicitDefEqProofs [*]) <;> exact rfl)
      | ((with_reducible apply W_srdl); kernel_rfl) | ((with_reducible apply W_rdl); kernel_rfl)
      | ((with_reducible apply Wd_u); (conv => lhs; simp -implicitDefEqProofs [*]) <;> exact rfl)
      | ((with_reducible apply Wd_n); (conv => lhs; simp -implicitDefEqProofs [*]) <;> exact rfl)
      | ((with_reducible apply Wd_nil); exact rfl)
      | ((with_reducible apply Wd_gsT); (exact rfl); ((conv => lhs; simp -implicitDefEqProofs [*]) <;> exact rfl))
      | ((with_reducible apply Wd_gsF); (exact rfl); ((conv => lhs; simp -implicitDefEqProofs [*]) <;> exact rfl))
      | ((with_reducible apply ex4); (conv => lhs; simp -implicitDefEqProofs [*]) <;> exact rfl)
      | (with_reducible apply W_sblock) | (with_reducible apply W_block) | (with_reducible apply W_sskip) | (with_reducible apply W_skip) | (with_reducible apply W_sret) | (with_reducible apply W_ret) | (with_reducible apply W_sexit) | (with_reducible apply W_exit)
      | (with_reducible apply thenW_n) | (with_reducible apply thenW_r) | (with_reducible apply thenW_e) | (with_reducible apply inB_n) | (with_reducible apply inB_r) | (with_reducible apply inB_e) | ((with_reducible apply inB_o); rotate_left; exact rfl)
      | ((with_reducible apply EndQ_ret); (conv => lhs; simp -implicitDefEqProofs [*]) <;> exact rfl) | ((with_reducible apply EndQ_normal); (conv => lhs; simp -implicitDefEqProofs [*]) <;> exact rfl)
      | (intro h h'; try simp [*, -h] at h'))
    · exact ⟨n, by omega, n, rfl, by omega, by simp, by simp_all, by simp_all, by simp_all, by simp_all, by rw [hP, hc]; simp_all⟩
    · rw [hP, hc]; simp_all
    rotate_left
    · rw [hP, hc]; simp_all
    refine W_loopS (n := hi - (n + 1)) (fun s0 m s => ∃ i : Nat, m = hi - i ∧ i ≤ hi ∧ s.fr 9 = iv i ∧ s.fr 1 = s0.fr 1 ∧ s.fr 3 = s0.fr 3 ∧ s.fr 7 = s0.fr 7 ∧ s.fr 8 = s0.fr 8 ∧ s.hp ⟨0, 3, 0⟩ = s0.hp ⟨0, 3, 0⟩ ∧ s.hp ⟨0, 8, 0⟩ = s0.hp ⟨0, 8, 0⟩ ∧ (n + 1 ≤ i ∧ ∀ k t, n + 1 ≤ k → k < i → b.ins[k]? = some t → t.sets ≠ b.ins[n].a)) ⟨n + 1, by simp, by first | omega | simp, by simp, by simp, by simp, by simp, by simp, by simp, by simp, ⟨by omega, fun i t h1 h2 => by omega⟩⟩ ?_
    rintro m ⟨fr, hp⟩ ⟨i, rfl, hk, hs9, hs1, hs3, hs7, hs8, hh3, hh8, hP⟩
    simp at hs9 hs1 hs3 hs7 hs8 hh3 hh8
    obtain ⟨hin, hQ⟩ := hP
    by_cases hlj : i < hi
    · have hgj : b.ins[i]? = some b.ins[i] := List.getElem?_eq_getElem (by omega)
      have hwj := wrapN (k := i) (by unfold big at hb; omega)
      repeat' (first
        | ((with_reducible apply Wo_u); (conv => lhs; simp -implicitDefEqProofs [*]) <;> exact rfl)
        | ((with_reducible apply Wo_n); (conv => lhs; simp -implicitDefEqProofs [*]) <;> exact rfl)
        | (with_reducible apply Wo_nil)
        | ((with_reducible apply Wo_gt); (exact rfl); ((conv => lhs; simp -implicitDefEqProofs [*]) <;> exact rfl); (conv => lhs; simp -implicitDefEqProofs [*]) <;> exact rfl)
        | ((with_reducible apply Wo_gf); (exact rfl); ((conv => lhs; simp -implicitDefEqProofs [*]) <;> exact rfl); (exact rfl))
        | ((with_reducible apply Wo_gx); (exact rfl); ((conv => lhs; simp -implicitDefEqProofs [*]) <;> exact rfl))
        | ((with_reducible apply Wo_gsT); (exact rfl); ((conv => lhs; simp -implicitDefEqProofs [*]) <;> exact rfl))
        | ((with_reducible apply Wo_gsF); (exact rfl); ((conv => lhs; simp -implicitDefEqProofs [*]) <;> exact rfl))
        | ((with_reducible apply ex2); (conv => lhs; simp -implicitDefEqProofs [*]) <;> exact rfl)
        | (with_reducible apply W_ss) | (with_reducible apply W_srl) | (with_reducible apply W_rl)
        | ((with_reducible apply W_sc); (conv => lhs; simp -implicitDefEqProofs [*]) <;> exact rfl)
        | ((with_reducible apply W_c); (conv => lhs; simp -implicitDefEqProofs [*]) <;> exact rfl)
        | ((with_reducible apply W_srdl); kernel_rfl) | ((with_reducible apply W_rdl); kernel_rfl)
        | ((with_reducible apply Wd_u); (conv => lhs; simp -implicitDefEqProofs [*]) <;> exact rfl)
        | ((with_reducible apply Wd_n); (conv => lhs; simp -implicitDefEqProofs [*]) <;> exact rfl)
        | ((with_reducible apply Wd_nil); exact rfl)
        | ((with_reducible apply Wd_gsT); (exact rfl); ((conv => lhs; simp -implicitDefEqProofs [*]) <;> exact rfl))
        | ((with_reducible apply Wd_gsF); (exact rfl); ((conv => lhs; simp -implicitDefEqProofs [*]) <;> exact rfl))
        | ((with_reducible apply ex4); (conv => lhs; simp -implicitDefEqProofs [*]) <;> exact rfl)
        | (with_reducible apply W_sblock) | (with_reducible apply W_block) | (with_reducible apply W_sskip) | (with_reducible apply W_skip) | (with_reducible apply W_sret) | (with_reducible apply W_ret) | (with_reducible apply W_sexit) | (with_reducible apply W_exit)
        | (with_reducible apply thenW_n) | (with_reducible apply thenW_r) | (with_reducible apply thenW_e) | (with_reducible apply inB_n) | (with_reducible apply inB_r) | (with_reducible apply inB_e) | ((with_reducible apply inB_o); rotate_left; exact rfl)
        | ((with_reducible apply EndQ_ret); (conv => lhs; simp -implicitDefEqProofs [*]) <;> exact rfl) | ((with_reducible apply EndQ_normal); (conv => lhs; simp -implicitDefEqProofs [*]) <;> exact rfl)
        | (intro h h'; try simp [*, -h] at h'))
      · have := noSet_no (lo := n + 1) hin hlj hgj (by assumption : setsZ b.ins[i].op b.ins[i].d = _)
        simp_all
      · exact ⟨_, by omega, i + 1, rfl, by omega, by simp, by simp_all, by simp_all, by simp_all, by simp_all, by simp_all, by simp_all, by omega, fun k t h1 h2 h3 => by
          by_cases e : k = i
          · subst e; rw [hgj] at h3; cases h3; assumption
          · exact hQ k t h1 (by omega) h3⟩
    · obtain rfl : i = hi := by omega
      have := noSet_yes hQ
      repeat' (first
        | ((with_reducible apply Wo_u); (conv => lhs; simp -implicitDefEqProofs [*]) <;> exact rfl)
        | ((with_reducible apply Wo_n); (conv => lhs; simp -implicitDefEqProofs [*]) <;> exact rfl)
        | (with_reducible apply Wo_nil)
        | ((with_reducible apply Wo_gt); (exact rfl); ((conv => lhs; simp -implicitDefEqProofs [*]) <;> exact rfl); (conv => lhs; simp -implicitDefEqProofs [*]) <;> exact rfl)
        | ((with_reducible apply Wo_gf); (exact rfl); ((conv => lhs; simp -implicitDefEqProofs [*]) <;> exact rfl); (exact rfl))
        | ((with_reducible apply Wo_gx); (exact rfl); ((conv => lhs; simp -implicitDefEqProofs [*]) <;> exact rfl))
        | ((with_reducible apply Wo_gsT); (exact rfl); ((conv => lhs; simp -implicitDefEqProofs [*]) <;> exact rfl))
        | ((with_reducible apply Wo_gsF); (exact rfl); ((conv => lhs; simp -implicitDefEqProofs [*]) <;> exact rfl))
        | ((with_reducible apply ex2); (conv => lhs; simp -implicitDefEqProofs [*]) <;> exact rfl)
        | (with_reducible apply W_ss) | (with_reducible apply W_srl) | (with_reducible apply W_rl)
        | ((with_reducible apply W_sc); (conv => lhs; simp -implicitDefEqProofs [*]) <;> exact rfl)
        | ((with_reducible apply W_c); (conv => lhs; simp -implicitDefEqProofs [*]) <;> exact rfl)
        | ((with_reducible apply W_srdl); kernel_rfl) | ((with_reducible apply W_rdl); kernel_rfl)
        | ((with_reducible apply Wd_u); (conv => lhs; simp -implicitDefEqProofs [*]) <;> exact rfl)
        | ((with_reducible apply Wd_n); (conv => lhs; simp -implicitDefEqProofs [*]) <;> exact rfl)
        | ((with_reducible apply Wd_nil); exact rfl)
        | ((with_reducible apply Wd_gsT); (exact rfl); ((conv => lhs; simp -implicitDefEqProofs [*]) <;> exact rfl))
        | ((with_reducible apply Wd_gsF); (exact rfl); ((conv => lhs; simp -implicitDefEqProofs [*]) <;> exact rfl))
        | ((with_reducible apply ex4); (conv => lhs; simp -implicitDefEqProofs [*]) <;> exact rfl)
        | (with_reducible apply W_sblock) | (with_reducible apply W_block) | (with_reducible apply W_sskip) | (with_reducible apply W_skip) | (with_reducible apply W_sret) | (with_reducible apply W_ret) | (with_reducible apply W_sexit) | (with_reducible apply W_exit)
        | (with_reducible apply thenW_n) | (with_reducible apply thenW_r) | (with_reducible apply thenW_e) | (with_reducible apply inB_n) | (with_reducible apply inB_r) | (with_reducible apply inB_e) | ((with_reducible apply inB_o); rotate_left; exact rfl)
        | ((with_reducible apply EndQ_ret); (conv => lhs; simp -implicitDefEqProofs [*]) <;> exact rfl) | ((with_reducible apply EndQ_normal); (conv => lhs; simp -implicitDefEqProofs [*]) <;> exact rfl)
        | (intro h h'; try simp [*, -h] at h'))
      simp_all
end Go.Proofs.Ytmfhdhiaokejdaa

namespace Go.Proofs.Ytmfhdhiaokejdaa
open Go Go.Ab
set_option linter.unusedSimpArgs false
set_option linter.unusedVariables false
theorem one_okR {f : Fn} {number words : Int} (h : oneB f number words = true) : 0 ≤ f.regs ∧ f.regs ≤ 4000 ∧ 0 < f.blocks.length ∧ ∀ b ∈ f.blocks, b.okR f.regs.toNat := by
  unfold oneB at h
  simp only [Bool.and_eq_true, decide_eq_true_eq, List.all_eq_true] at h
  obtain ⟨⟨⟨h1, h2⟩, h3⟩, h4⟩ := h
  refine ⟨h1, h2, h3, fun b hb => ?_⟩
  have := h4 b hb
  unfold okBlk at this
  simp only [Bool.and_eq_true, List.all_eq_true] at this
  obtain ⟨he, hi⟩ := this
  have en : ((f.regs.toNat : Nat) : Int) = f.regs := Int.toNat_of_nonneg h1
  refine ⟨fun t ht => ?_, fun hen => ?_⟩
  · have ht := hi t ht
    unfold Tac.fitsB fitsB at ht
    simp only [Bool.and_eq_true, Bool.or_eq_true, Bool.not_eq_true', decide_eq_true_eq] at ht
    obtain ⟨⟨⟨⟨⟨⟨⟨⟨ho1, ho2⟩, hd⟩, hu⟩, _⟩, _⟩, _⟩, _⟩, _⟩ := ht
    refine ⟨fun x hx => ?_, fun hs => ?_⟩
    · unfold okUse at hu
      rw [List.all_eq_true] at hu
      have := hu x hx
      unfold withinB at this
      simp only [Bool.and_eq_true, decide_eq_true_eq] at this
      omega
    · unfold Tac.sets setsZ at hs ⊢
      split
      · rename_i hsb
        rcases hd with hd | hd
        · rw [hsb] at hd; cases hd
        · unfold withinB at hd
          simp only [Bool.and_eq_true, decide_eq_true_eq] at hd
          omega
      · omega
  · unfold endsB at he
    rw [if_neg (by omega), if_pos hen] at he
    simp only [Bool.and_eq_true, withinB, decide_eq_true_eq] at he
    omega
def trueAt (n k : Nat) : List (List AV) := (List.range n).map fun v => [bv (decide (v < k))]
theorem trueAt_len (n k : Nat) : (trueAt n k).length = n := by simp [trueAt]
theorem trueAt_zero (n : Nat) : trueAt n 0 = List.replicate n [bv false] := by
  apply List.ext_getElem?
  intro j
  simp only [trueAt, List.getElem?_map, List.getElem?_replicate]
  by_cases h : j < n
  · rw [List.getElem?_eq_getElem (by simpa using h)]; simp [h]
  · rw [List.getElem?_eq_none (by simp; omega)]; simp [h]
theorem trueAt_all (n : Nat) : trueAt n n = (List.replicate n true).map fun x => [bv x] := by
  apply List.ext_getElem?
  intro j
  simp only [trueAt, List.getElem?_map, List.getElem?_replicate]
  by_cases h : j < n
  · rw [List.getElem?_eq_getElem (by simpa using h)]; simp [h]
  · rw [List.getElem?_eq_none (by simp; omega)]; simp [h]
theorem trueAt_get {n k : Nat} (h : k < n) : (trueAt n k)[k]? = some [bv false] := by simp [trueAt, h]
theorem trueAt_succ {n k : Nat} (h : k < n) : (trueAt n k).set k [bv true] = trueAt n (k + 1) := by
  apply List.ext_getElem?
  intro j
  rw [List.getElem?_set]
  simp only [trueAt, List.getElem?_map, List.length_map, List.length_range]
  by_cases e : k = j
  · subst e
    rw [List.getElem?_eq_getElem (by simpa using h)]
    simp [h]
  · rw [if_neg e]
    by_cases hj : j < n
    · rw [List.getElem?_eq_getElem (by simpa using hj)]
      simp only [List.getElem_range, Option.map_some, Option.some.injEq, List.cons.injEq, and_true, AV.sc.injEq, Value.bool.injEq, decide_eq_decide]
      omega
    · rw [List.getElem?_eq_none (by simp; omega)]; rfl
/-- A list that is filled from the front. -/
def fillAt {α : Type} (g : α → List AV) (z : List AV) (l : List α) (k : Nat) : List (List AV) := l.mapIdx fun j x => if j < k then g x else z
theorem fillAt_len {α : Type} (g : α → List AV) (z : List AV) (l : List α) (k : Nat) : (fillAt g z l k).length = l.length := by simp [fillAt]
theorem fillAt_zero {α : Type} (g : α → List AV) (z : List AV) (l : List α) : fillAt g z l 0 = List.replicate l.length z := by
  apply List.ext_getElem?
  intro j
  simp only [fillAt, List.getElem?_mapIdx, List.getElem?_replicate]
  by_cases h : j < l.length
  · rw [List.getElem?_eq_getElem h]; simp [h]
  · rw [List.getElem?_eq_none (by omega)]; simp [h]
theorem fillAt_all {α : Type} (g : α → List AV) (z : List AV) (l : List α) : fillAt g z l l.length = l.map g := by
  apply List.ext_getElem?
  intro j
  simp only [fillAt, List.getElem?_mapIdx, List.getElem?_map]
  cases hj : l[j]? with
  | none => rfl
  | some u => simp only [Option.map_some]; rw [if_pos (List.getElem?_eq_some_iff.1 hj).1]
theorem fillAt_get {α : Type} {g : α → List AV} {z : List AV} {l : List α} {k : Nat} (h : k < l.length) : (fillAt g z l k)[k]? = some z := by simp [fillAt, h]
theorem fillAt_succ {α : Type} {g : α → List AV} {z : List AV} {l : List α} {k : Nat} {x : α} (h : l[k]? = some x) : (fillAt g z l k).set k (g x) = fillAt g z l (k + 1) := by
  have hk := (List.getElem?_eq_some_iff.1 h).1
  apply List.ext_getElem?
  intro j
  rw [List.getElem?_set]
  simp only [fillAt, List.getElem?_mapIdx, List.length_mapIdx]
  by_cases e : k = j
  · subst e
    have ht := (List.getElem?_eq_some_iff.1 h).2
    simp [hk, ht]
  · rw [if_neg e]
    cases hj : l[j]? with
    | none => rfl
    | some u =>
      simp only [Option.map_some, Option.some.injEq]
      by_cases hjk : j < k
      · rw [if_pos hjk, if_pos (by omega)]
      · rw [if_neg hjk, if_neg (by omega)]
abbrev gB (n : Nat) (b : Blk) : List AV := (fwdBlk n b).row
abbrev zB : List AV := [.sl false 8 [], iv 0, iv 0, iv 0, iv 0]
abbrev gC (n : Nat) (_ : Blk) : List AV := [.sl false 1 ((List.replicate n true).map fun x => [bv x])]
abbrev zC : List AV := [.sl false 1 []]
set_option maxHeartbeats 4000000 in
theorem d13 (n : Nat) (bs : List Blk) (hn : n ≤ 4000) (hbs : bs.length ≤ 100000) (hins : ∀ b ∈ bs, b.ins.length ≤ 100000) (hok : ∀ b ∈ bs, b.okR n) : (lim Try.prog E31 X31).dat 13 [.agg [iv n, .sl false 5 (bs.map Blk.row)]] = some [.agg [iv n, .vec 5 (bs.map (gB n))], .agg [.vec 1 (bs.map (gC n))]] := by
  refine fnW Try.func13 rfl rfl bodyOk_13 rfl rtys_13 rfl ?_
  have hb1 : (bs.length : Int) * 56 ≤ 140737488355328 := by omega
  have hb2 : (bs.length : Int) * 24 ≤ 140737488355328 := by omega
  have hb3 : (bs.length : Int) ≤ 9223372036854775807 := by omega
  have hb4 : (n : Int) ≤ 9223372036854775807 := by omega
  have hb5 : (n : Int) ≤ 140737488355328 := by omega
  repeat' (first
    | ((with_reducible apply Wo_u); (conv => lhs; simp -implicitDefEqProofs [*]) <;> exact rfl)
    | ((with_reducible apply Wo_n); (conv => lhs; simp -implicitDefEqProofs [*]) <;> exact rfl)
    | (with_reducible apply Wo_nil)
    | ((with_reducible apply Wo_gt); (exact rfl); ((conv => lhs; simp -implicitDefEqProofs [*]) <;> exact rfl); (conv => lhs; simp -implicitDefEqProofs [*]) <;> exact rfl)
    | ((with_reducible apply Wo_gf); (exact rfl); ((conv => lhs; simp -implicitDefEqProofs [*]) <;> exact rfl); (exact rfl))
    | ((with_reducible apply Wo_gx); (exact rfl); ((conv => lhs; simp -implicitDefEqProofs [*]) <;> exact rfl))
    | ((with_reducible apply Wo_gsT); (exact rfl); ((conv => lhs; simp -implicitDefEqProofs [*]) <;> exact rfl))
    | ((with_reducible apply Wo_gsF); (exact rfl); ((conv => lhs; simp -implicitDefEqProofs [*]) <;> exact rfl))
    | ((with_reducible apply ex2); (conv => lhs; simp -implicitDefEqProofs [*]) <;> exact rfl)
    | (with_reducible apply W_ss) | (with_reducible apply W_srl) | (with_reducible apply W_rl)
    | ((with_reducible apply W_sc); (conv => lhs; simp -implicitDefEqProofs [*]) <;> exact rfl)
    | ((with_reducible apply W_c); (conv => lhs; simp -implicitDefEqProofs [*]) <;> exact rfl)
    | ((with_reducible apply W_srdl); kernel_rfl) | ((with_reducible apply W_rdl); kernel_rfl)
    | ((with_reducible apply Wd_u); (conv => lhs; simp -implicitDefEqProofs [*]) <;> exact rfl)
    | ((with_reducible apply Wd_n); (conv => lhs; simp -implicitDefEqProofs [*]) <;> exact rfl)
    | ((with_reducible apply Wd_nil); exact rfl)
    | ((with_reducible apply Wd_gsT); (exact rfl); ((conv => lhs; simp -implicitDefEqProofs [*]) <;> exact rfl))
    | ((with_reducible apply Wd_gsF); (exact rfl); ((conv => lhs; simp -implicitDefEqProofs [*]) <;> exact rfl))
    | ((with_reducible apply ex4); (conv => lhs; simp -implicitDefEqProofs [*]) <;> exact rfl)
    | (with_reducible apply W_sblock) | (with_reducible apply W_block) | (with_reducible apply W_sskip) | (with_reducible apply W_skip) | (with_reducible apply W_sret) | (with_reducible apply W_ret) | (with_reducible apply W_sexit) | (with_reducible apply W_exit)
    | (with_reducible apply thenW_n) | (with_reducible apply thenW_r) | (with_reducible apply thenW_e) | (with_reducible apply inB_n) | (with_reducible apply inB_r) | (with_reducible apply inB_e) | ((with_reducible apply inB_o); rotate_left; exact rfl)
    | ((with_reducible apply EndQ_ret); (conv => lhs; simp -implicitDefEqProofs [*]) <;> exact rfl) | ((with_reducible apply EndQ_normal); (conv => lhs; simp -implicitDefEqProofs [*]) <;> exact rfl)
    | (intro h h'; try simp [*, -h] at h'))
  refine W_loopS (n := bs.length) (fun s0 m s => ∃ k : Nat, m = bs.length - k ∧ k ≤ bs.length ∧ s.fr 25 = iv k ∧ s.fr 1 = s0.fr 1 ∧ s.fr 4 = s0.fr 4 ∧ s.fr 5 = s0.fr 5 ∧ s.fr 23 = s0.fr 23 ∧ s.fr 24 = s0.fr 24 ∧ s.fr 2 = s0.fr 2 ∧ s.fr 3 = s0.fr 3 ∧ s.hp ⟨0, 1, 0⟩ = s0.hp ⟨0, 1, 0⟩ ∧ s.hp ⟨0, 4, 0⟩ = s0.hp ⟨0, 4, 0⟩ ∧ s.hp ⟨0, 5, 0⟩ = s0.hp ⟨0, 5, 0⟩ ∧ s.hp ⟨0, 2, 0⟩ = s0.hp ⟨0, 2, 0⟩ ∧ s.hp ⟨0, 3, 0⟩ = s0.hp ⟨0, 3, 0⟩ ∧ s.hp ⟨0, 2, 2⟩ = s0.hp ⟨0, 2, 2⟩ ∧ s.hp ⟨0, 3, 1⟩ = s0.hp ⟨0, 3, 1⟩ ∧ s.hp ⟨0, 4, 2⟩ = .arr 2 5 37 (fillAt (gB n) zB bs k) false ∧ s.hp ⟨0, 5, 1⟩ = .arr 2 1 55 (fillAt (gC n) zC bs k) false) ⟨0, by simp, by first | omega | simp, by simp, by simp, by simp, by simp, by simp, by simp, by simp, by simp, by simp, by simp, by simp, by simp, by simp, by simp, by simp, by simp [fillAt_zero, trueAt_zero], by simp [fillAt_zero, trueAt_zero]⟩ ?_
  rintro m ⟨fr, hp⟩ ⟨k, rfl, hk, hs25, hs1, hs4, hs5, hs23, hs24, hs2, hs3, hh0_1_0, hh0_4_0, hh0_5_0, hh0_2_0, hh0_3_0, hh0_2_2, hh0_3_1, hh0_4_2, hh0_5_1⟩
  simp at hs25 hs1 hs4 hs5 hs23 hs24 hs2 hs3 hh0_1_0 hh0_4_0 hh0_5_0 hh0_2_0 hh0_3_0 hh0_2_2 hh0_3_1 hh0_4_2 hh0_5_1
  by_cases hlt : k < bs.length
  · have hg := List.getElem?_eq_getElem hlt
    have hw := wrapN (k := k) (by omega)
    have hf := fwd_dat bs[k] n hn (hins _ (List.getElem_mem hlt)) (hok _ (List.getElem_mem hlt))
    simp only [Blk.row] at hf
    have hz1 := fillAt_get (g := gB n) (z := zB) hlt
    have hz2 := fillAt_get (g := gC n) (z := zC) hlt
    have hl1 := fillAt_len (gB n) zB bs k
    have hl2 := fillAt_len (gC n) zC bs k
    have hs1 : (fillAt (gB n) zB bs k).set k [.sl false 8 ((fwdBlk n bs[k]).ins.map Tac.row), iv bs[k].en, iv (fwdBlk n bs[k]).v, iv bs[k].to, iv bs[k].el] = fillAt (gB n) zB bs (k + 1) := fillAt_succ (g := gB n) (z := zB) hg
    have hs2' : (fillAt (gC n) zC bs k).set k [.sl false 1 (trueAt n n)] = fillAt (gC n) zC bs (k + 1) := by rw [trueAt_all]; exact fillAt_succ (g := gC n) (z := zC) hg
    have hz1' : ∀ h, (fillAt (gB n) zB bs k)[k]'h = zB := fun h => by rw [List.getElem?_eq_getElem h] at hz1; exact Option.some.inj hz1
    have hz2' : ∀ h, (fillAt (gC n) zC bs k)[k]'h = zC := fun h => by rw [List.getElem?_eq_getElem h] at hz2; exact Option.some.inj hz2
    have htk : ((fwdBlk n bs[k]).ins.map Tac.row).take (fwdBlk n bs[k]).ins.length = (fwdBlk n bs[k]).ins.map Tac.row := List.take_of_length_le (by simp)
    have HS1 := Lib.hid hs1
    have HS2 := Lib.hid hs2'
    clear hs1 hs2'
    repeat' (first
      | ((with_reducible apply Wo_u); (conv => lhs; simp -implicitDefEqProofs [*]) <;> exact rfl)
      | ((with_reducible apply Wo_n); (conv => lhs; simp -implicitDefEqProofs [*]) <;> exact rfl)
      | (with_reducible apply Wo_nil)
      | ((with_reducible apply Wo_gt); (exact rfl); ((conv => lhs; simp -implicitDefEqProofs [*]) <;> exact rfl); (conv => lhs; simp -implicitDefEqProofs [*]) <;> exact rfl)
      | ((with_reducible apply Wo_gf); (exact rfl); ((conv => lhs; simp -implicitDefEqProofs [*]) <;> exact rfl); (exact rfl))
      | ((with_reducible apply Wo_gx); (exact rfl); ((conv => lhs; simp -implicitDefEqProofs [*]) <;> exact rfl))
      | ((with_reducible apply Wo_gsT); (exact rfl); ((conv => lhs; simp -implicitDefEqProofs [*]) <;> exact rfl))
      | ((with_reducible apply Wo_gsF); (exact rfl); ((conv => lhs; simp -implicitDefEqProofs [*]) <;> exact rfl))
      | ((with_reducible apply ex2); (conv => lhs; simp -implicitDefEqProofs [*]) <;> exact rfl)
      | (with_reducible apply W_ss) | (with_reducible apply W_srl) | (with_reducible apply W_rl)
      | ((with_reducible apply W_sc); (conv => lhs; simp -implicitDefEqProofs [*]) <;> exact rfl)
      | ((with_reducible apply W_c); (conv => lhs; simp -implicitDefEqProofs [*]) <;> exact rfl)
      | ((with_reducible apply W_srdl); kernel_rfl) | ((with_reducible apply W_rdl); kernel_rfl)
      | ((with_reducible apply Wd_u); (conv => lhs; simp -implicitDefEqProofs [*]) <;> exact rfl)
      | ((with_reducible apply Wd_n); (conv => lhs; simp -implicitDefEqProofs [*]) <;> exact rfl)
      | ((with_reducible apply Wd_nil); exact rfl)
      | ((with_reducible apply Wd_gsT); (exact rfl); ((conv => lhs; simp -implicitDefEqProofs [*]) <;> exact rfl))
      | ((with_reducible apply Wd_gsF); (exact rfl); ((conv => lhs; simp -implicitDefEqProofs [*]) <;> exact rfl))
      | ((with_reducible apply ex4); (conv => lhs; simp -implicitDefEqProofs [*]) <;> exact rfl)
      | (with_reducible apply W_sblock) | (with_reducible apply W_block) | (with_reducible apply W_sskip) | (with_reducible apply W_skip) | (with_reducible apply W_sret) | (with_reducible apply W_ret) | (with_reducible apply W_sexit) | (with_reducible apply W_exit)
      | (with_reducible apply thenW_n) | (with_reducible apply thenW_r) | (with_reducible apply thenW_e) | (with_reducible apply inB_n) | (with_reducible apply inB_r) | (with_reducible apply inB_e) | ((with_reducible apply inB_o); rotate_left; exact rfl)
      | ((with_reducible apply EndQ_ret); (conv => lhs; simp -implicitDefEqProofs [*]) <;> exact rfl) | ((with_reducible apply EndQ_normal); (conv => lhs; simp -implicitDefEqProofs [*]) <;> exact rfl)
      | (intro h h'; try simp [*, -h] at h'))
    refine W_loopS (n := n) (fun s0 m s => ∃ j : Nat, m = n - j ∧ j ≤ n ∧ s.fr 43 = iv j ∧ s.fr 1 = s0.fr 1 ∧ s.fr 4 = s0.fr 4 ∧ s.fr 5 = s0.fr 5 ∧ s.fr 23 = s0.fr 23 ∧ s.fr 24 = s0.fr 24 ∧ s.fr 25 = s0.fr 25 ∧ s.fr 6 = s0.fr 6 ∧ s.fr 8 = s0.fr 8 ∧ s.fr 42 = s0.fr 42 ∧ s.fr 2 = s0.fr 2 ∧ s.fr 3 = s0.fr 3 ∧ s.hp ⟨0, 1, 0⟩ = s0.hp ⟨0, 1, 0⟩ ∧ s.hp ⟨0, 4, 0⟩ = s0.hp ⟨0, 4, 0⟩ ∧ s.hp ⟨0, 5, 0⟩ = s0.hp ⟨0, 5, 0⟩ ∧ s.hp ⟨0, 2, 0⟩ = s0.hp ⟨0, 2, 0⟩ ∧ s.hp ⟨0, 3, 0⟩ = s0.hp ⟨0, 3, 0⟩ ∧ s.hp ⟨0, 2, 2⟩ = s0.hp ⟨0, 2, 2⟩ ∧ s.hp ⟨0, 3, 1⟩ = s0.hp ⟨0, 3, 1⟩ ∧ s.hp ⟨0, 4, 2⟩ = s0.hp ⟨0, 4, 2⟩ ∧ s.hp ⟨0, 5, 1⟩ = s0.hp ⟨0, 5, 1⟩ ∧ s.hp ⟨0, 40, 0⟩ = .arr (s0.hp ⟨0, 40, 0⟩).gen 1 4 (trueAt n j) false) ⟨0, by simp, by first | omega | simp, by simp, by simp, by simp, by simp, by simp, by simp, by simp, by simp, by simp, by simp, by simp, by simp, by simp, by simp, by simp, by simp, by simp, by simp, by simp, by simp, by simp, by simp [fillAt_zero, trueAt_zero]⟩ ?_
    rintro m ⟨fr, hp⟩ ⟨j, rfl, hk, hs43, hs1, hs4, hs5, hs23, hs24, hs25, hs6, hs8, hs42, hs2, hs3, hh0_1_0, hh0_4_0, hh0_5_0, hh0_2_0, hh0_3_0, hh0_2_2, hh0_3_1, hh0_4_2, hh0_5_1, hh0_40_0⟩
    simp at hs43 hs1 hs4 hs5 hs23 hs24 hs25 hs6 hs8 hs42 hs2 hs3 hh0_1_0 hh0_4_0 hh0_5_0 hh0_2_0 hh0_3_0 hh0_2_2 hh0_3_1 hh0_4_2 hh0_5_1 hh0_40_0
    by_cases hlj : j < n
    · have hwj := wrapN (k := j) (by omega)
      have htg := trueAt_get hlj
      have htl := trueAt_len n j
      have htg' : ∀ h, (trueAt n j)[j]'h = [bv false] := fun h => by rw [List.getElem?_eq_getElem h] at htg; exact Option.some.inj htg
      repeat' (first
        | ((with_reducible apply Wo_u); (conv => lhs; simp -implicitDefEqProofs [*]) <;> exact rfl)
        | ((with_reducible apply Wo_n); (conv => lhs; simp -implicitDefEqProofs [*]) <;> exact rfl)
        | (with_reducible apply Wo_nil)
        | ((with_reducible apply Wo_gt); (exact rfl); ((conv => lhs; simp -implicitDefEqProofs [*]) <;> exact rfl); (conv => lhs; simp -implicitDefEqProofs [*]) <;> exact rfl)
        | ((with_reducible apply Wo_gf); (exact rfl); ((conv => lhs; simp -implicitDefEqProofs [*]) <;> exact rfl); (exact rfl))
        | ((with_reducible apply Wo_gx); (exact rfl); ((conv => lhs; simp -implicitDefEqProofs [*]) <;> exact rfl))
        | ((with_reducible apply Wo_gsT); (exact rfl); ((conv => lhs; simp -implicitDefEqProofs [*]) <;> exact rfl))
        | ((with_reducible apply Wo_gsF); (exact rfl); ((conv => lhs; simp -implicitDefEqProofs [*]) <;> exact rfl))
        | ((with_reducible apply ex2); (conv => lhs; simp -implicitDefEqProofs [*]) <;> exact rfl)
        | (with_reducible apply W_ss) | (with_reducible apply W_srl) | (with_reducible apply W_rl)
        | ((with_reducible apply W_sc); (conv => lhs; simp -implicitDefEqProofs [*]) <;> exact rfl)
        | ((with_reducible apply W_c); (conv => lhs; simp -implicitDefEqProofs [*]) <;> exact rfl)
        | ((with_reducible apply W_srdl); kernel_rfl) | ((with_reducible apply W_rdl); kernel_rfl)
        | ((with_reducible apply Wd_u); (conv => lhs; simp -implicitDefEqProofs [*]) <;> exact rfl)
        | ((with_reducible apply Wd_n); (conv => lhs; simp -implicitDefEqProofs [*]) <;> exact rfl)
        | ((with_reducible apply Wd_nil); exact rfl)
        | ((with_reducible apply Wd_gsT); (exact rfl); ((conv => lhs; simp -implicitDefEqProofs [*]) <;> exact rfl))
        | ((with_reducible apply Wd_gsF); (exact rfl); ((conv => lhs; simp -implicitDefEqProofs [*]) <;> exact rfl))
        | ((with_reducible apply ex4); (conv => lhs; simp -implicitDefEqProofs [*]) <;> exact rfl)
        | (with_reducible apply W_sblock) | (with_reducible apply W_block) | (with_reducible apply W_sskip) | (with_reducible apply W_skip) | (with_reducible apply W_sret) | (with_reducible apply W_ret) | (with_reducible apply W_sexit) | (with_reducible apply W_exit)
        | (with_reducible apply thenW_n) | (with_reducible apply thenW_r) | (with_reducible apply thenW_e) | (with_reducible apply inB_n) | (with_reducible apply inB_r) | (with_reducible apply inB_e) | ((with_reducible apply inB_o); rotate_left; exact rfl)
        | ((with_reducible apply EndQ_ret); (conv => lhs; simp -implicitDefEqProofs [*]) <;> exact rfl) | ((with_reducible apply EndQ_normal); (conv => lhs; simp -implicitDefEqProofs [*]) <;> exact rfl)
        | (intro h h'; try simp [*, -h] at h'))
      exact ⟨_, by omega, j + 1, rfl, hlj, by simp, by simp [*], by simp [*], by simp [*], by simp [*], by simp [*], by simp [*], by simp [*], by simp [*], by simp [*], by simp [*], by simp [*], by simp [*], by simp [*], by simp [*], by simp [*], by simp [*], by simp [*], by simp [*], by simp [*], by simp [*], by simp [*, trueAt_succ hlj]⟩
    · obtain rfl : j = n := by omega
      have htl := trueAt_len j j
      have htk2 : (trueAt j j).take j = trueAt j j := List.take_of_length_le (by rw [htl]; exact Nat.le_refl _)
      repeat' (first
        | ((with_reducible apply Wo_u); (conv => lhs; simp -implicitDefEqProofs [*]) <;> exact rfl)
        | ((with_reducible apply Wo_n); (conv => lhs; simp -implicitDefEqProofs [*]) <;> exact rfl)
        | (with_reducible apply Wo_nil)
        | ((with_reducible apply Wo_gt); (exact rfl); ((conv => lhs; simp -implicitDefEqProofs [*]) <;> exact rfl); (conv => lhs; simp -implicitDefEqProofs [*]) <;> exact rfl)
        | ((with_reducible apply Wo_gf); (exact rfl); ((conv => lhs; simp -implicitDefEqProofs [*]) <;> exact rfl); (exact rfl))
        | ((with_reducible apply Wo_gx); (exact rfl); ((conv => lhs; simp -implicitDefEqProofs [*]) <;> exact rfl))
        | ((with_reducible apply Wo_gsT); (exact rfl); ((conv => lhs; simp -implicitDefEqProofs [*]) <;> exact rfl))
        | ((with_reducible apply Wo_gsF); (exact rfl); ((conv => lhs; simp -implicitDefEqProofs [*]) <;> exact rfl))
        | ((with_reducible apply ex2); (conv => lhs; simp -implicitDefEqProofs [*]) <;> exact rfl)
        | (with_reducible apply W_ss) | (with_reducible apply W_srl) | (with_reducible apply W_rl)
        | ((with_reducible apply W_sc); (conv => lhs; simp -implicitDefEqProofs [*]) <;> exact rfl)
        | ((with_reducible apply W_c); (conv => lhs; simp -implicitDefEqProofs [*]) <;> exact rfl)
        | ((with_reducible apply W_srdl); kernel_rfl) | ((with_reducible apply W_rdl); kernel_rfl)
        | ((with_reducible apply Wd_u); (conv => lhs; simp -implicitDefEqProofs [*]) <;> exact rfl)
        | ((with_reducible apply Wd_n); (conv => lhs; simp -implicitDefEqProofs [*]) <;> exact rfl)
        | ((with_reducible apply Wd_nil); exact rfl)
        | ((with_reducible apply Wd_gsT); (exact rfl); ((conv => lhs; simp -implicitDefEqProofs [*]) <;> exact rfl))
        | ((with_reducible apply Wd_gsF); (exact rfl); ((conv => lhs; simp -implicitDefEqProofs [*]) <;> exact rfl))
        | ((with_reducible apply ex4); (conv => lhs; simp -implicitDefEqProofs [*]) <;> exact rfl)
        | (with_reducible apply W_sblock) | (with_reducible apply W_block) | (with_reducible apply W_sskip) | (with_reducible apply W_skip) | (with_reducible apply W_sret) | (with_reducible apply W_ret) | (with_reducible apply W_sexit) | (with_reducible apply W_exit)
        | (with_reducible apply thenW_n) | (with_reducible apply thenW_r) | (with_reducible apply thenW_e) | (with_reducible apply inB_n) | (with_reducible apply inB_r) | (with_reducible apply inB_e) | ((with_reducible apply inB_o); rotate_left; exact rfl)
        | ((with_reducible apply EndQ_ret); (conv => lhs; simp -implicitDefEqProofs [*]) <;> exact rfl) | ((with_reducible apply EndQ_normal); (conv => lhs; simp -implicitDefEqProofs [*]) <;> exact rfl)
        | (intro h h'; try simp [*, -h] at h'))
      have hs1 := HS1.out
      have hs2' := HS2.out
      exact ⟨_, by omega, k + 1, rfl, hlt, by simp, by simp [*], by simp [*], by simp [*], by simp [*], by simp [*], by simp [*], by simp [*], by simp [*], by simp [*], by simp [*], by simp [*], by simp [*], by simp [*], by simp [*], by simp [*], by simp [*]⟩
  · obtain rfl : k = bs.length := by omega
    have ha1 := fillAt_all (gB n) zB bs
    have ha2 := fillAt_all (gC n) zC bs
    repeat' (first
      | ((with_reducible apply Wo_u); (conv => lhs; simp -implicitDefEqProofs [*]) <;> exact rfl)
      | ((with_reducible apply Wo_n); (conv => lhs; simp -implicitDefEqProofs [*]) <;> exact rfl)
      | (with_reducible apply Wo_nil)
      | ((with_reducible apply Wo_gt); (exact rfl); ((conv => lhs; simp -implicitDefEqProofs [*]) <;> exact rfl); (conv => lhs; simp -implicitDefEqProofs [*]) <;> exact rfl)
      | ((with_reducible apply Wo_gf); (exact rfl); ((conv => lhs; simp -implicitDefEqProofs [*]) <;> exact rfl); (exact rfl))
      | ((with_reducible apply Wo_gx); (exact rfl); ((conv => lhs; simp -implicitDefEqProofs [*]) <;> exact rfl))
      | ((with_reducible apply Wo_gsT); (exact rfl); ((conv => lhs; simp -implicitDefEqProofs [*]) <;> exact rfl))
      | ((with_reducible apply Wo_gsF); (exact rfl); ((conv => lhs; simp -implicitDefEqProofs [*]) <;> exact rfl))
      | ((with_reducible apply ex2); (conv => lhs; simp -implicitDefEqProofs [*]) <;> exact rfl)
      | (with_reducible apply W_ss) | (with_reducible apply W_srl) | (with_reducible apply W_rl)
      | ((with_reducible apply W_sc); (conv => lhs; simp -implicitDefEqProofs [*]) <;> exact rfl)
      | ((with_reducible apply W_c); (conv => lhs; simp -implicitDefEqProofs [*]) <;> exact rfl)
      | ((with_reducible apply W_srdl); kernel_rfl) | ((with_reducible apply W_rdl); kernel_rfl)
      | ((with_reducible apply Wd_u); (conv => lhs; simp -implicitDefEqProofs [*]) <;> exact rfl)
      | ((with_reducible apply Wd_n); (conv => lhs; simp -implicitDefEqProofs [*]) <;> exact rfl)
      | ((with_reducible apply Wd_nil); exact rfl)
      | ((with_reducible apply Wd_gsT); (exact rfl); ((conv => lhs; simp -implicitDefEqProofs [*]) <;> exact rfl))
      | ((with_reducible apply Wd_gsF); (exact rfl); ((conv => lhs; simp -implicitDefEqProofs [*]) <;> exact rfl))
      | ((with_reducible apply ex4); (conv => lhs; simp -implicitDefEqProofs [*]) <;> exact rfl)
      | (with_reducible apply W_sblock) | (with_reducible apply W_block) | (with_reducible apply W_sskip) | (with_reducible apply W_skip) | (with_reducible apply W_sret) | (with_reducible apply W_ret) | (with_reducible apply W_sexit) | (with_reducible apply W_exit)
      | (with_reducible apply thenW_n) | (with_reducible apply thenW_r) | (with_reducible apply thenW_e) | (with_reducible apply inB_n) | (with_reducible apply inB_r) | (with_reducible apply inB_e) | ((with_reducible apply inB_o); rotate_left; exact rfl)
      | ((with_reducible apply EndQ_ret); (conv => lhs; simp -implicitDefEqProofs [*]) <;> exact rfl) | ((with_reducible apply EndQ_normal); (conv => lhs; simp -implicitDefEqProofs [*]) <;> exact rfl)
      | (intro h h'; try simp [*, -h] at h'))
    simp [*]
end Go.Proofs.Ytmfhdhiaokejdaa

namespace Go.Proofs.Ytmfhdhiaokejdaa
open Go Go.Ab
set_option linter.unusedSimpArgs false
set_option linter.unusedVariables false
/-- What a register is a copy of is a copy of nothing. -/
def Idem (l : List Int) : Prop := ∀ (v : Nat) x, l[v]? = some x → l[x.toNat]? = some x
theorem idL_idem (n : Nat) : Idem (idL n) := by
  intro v x h
  rw [idL_get] at h
  split at h
  · cases h
    rw [idL_get]
    simp only [Int.toNat_natCast]
    rw [if_pos (by assumption)]
  · cases h
theorem forget_idem {l : List Int} {n : Nat} (hr : Rng l n) (h : Idem l) (d : Nat) : Idem (fwdForget l d) := by
  intro v x hx
  rw [forget_get] at hx
  have own : ∀ u : Nat, u < l.length → l[u]? = some (d : Int) ∨ u = d → (fwdForget l d)[u]? = some (u : Int) := by
    intro u hu hd
    rw [forget_get]
    by_cases e : u = d
    · subst e; rw [if_pos ⟨rfl, hu⟩]
    · rw [if_neg (fun h => e h.1)]
      rcases hd with hd | hd
      · rw [hd]; simp
      · exact (e hd).elim
  split at hx
  · rename_i e
    cases hx
    rw [Int.toNat_natCast]
    exact own d e.2 (.inr rfl)
  · rename_i hne
    cases hl : l[v]? with
    | none => rw [hl] at hx; cases hx
    | some y =>
      rw [hl] at hx
      have hlt := (List.getElem?_eq_some_iff.1 hl).1
      simp only [Option.map_some, Option.some.injEq] at hx
      split at hx
      · rename_i hy
        subst hx hy
        rw [Int.toNat_natCast]
        exact own v hlt (.inl hl)
      · rename_i hyd
        subst hx
        have hy := hr.2 v y hl
        have hyy := h v y hl
        rw [forget_get, if_neg (fun e => hyd (by omega)), hyy]
        simp [hyd]
theorem step_idem {l : List Int} {n : Nat} (hr : Rng l n) (h : Idem l) {t : Tac} (ht : t.okR n) : Idem (fwdStep l t) := by
  unfold fwdStep
  split
  · rename_i hs
    have hsl := ht.2 hs
    split
    · rename_i hop
      have ha := uses_a ht (.inl hop.1)
      have hat := atL_get hr ha.1 ha.2
      have haa := h _ _ hat.1
      have hf := forget_idem hr h t.sets.toNat
      have hlen : (fwdForget l t.sets.toNat).length = n := by rw [forget_len, hr.1]
      have hra : (fwdForget l t.sets.toNat)[(atL l t.a).toNat]? = some (atL l t.a) := by
        rw [forget_get, if_neg (fun e => hop.2 (by omega)), haa]
        simp only [Option.map_some, Option.some.injEq]
        rw [if_neg (by have := hop.2; omega)]
      intro v x hx
      rw [List.getElem?_set] at hx ⊢
      split at hx
      · split at hx
        · cases hx
          rw [if_neg (by have := hop.2; omega)]
          exact hra
        · cases hx
      · rename_i hvd
        have hvl := (List.getElem?_eq_some_iff.1 hx).1
        have hxr := (forget_rng hr t.sets.toNat).2 v x hx
        have hxd : ¬ t.sets.toNat = x.toNat := by
          intro e
          rw [forget_get, if_neg (fun h => hvd h.1.symm)] at hx
          cases hl : l[v]? with
          | none => rw [hl] at hx; cases hx
          | some y =>
            rw [hl] at hx
            simp only [Option.map_some, Option.some.injEq] at hx
            split at hx
            · omega
            · rename_i hyd; omega
        rw [if_neg hxd]
        exact hf v x hx
    · exact forget_idem hr h _
  · exact h
theorem stN_idem {n : Nat} {ins : List Tac} (hi : ∀ t ∈ ins, t.okR n) : ∀ k, k ≤ ins.length → Idem (stN (idL n) ins k)
  | 0, _ => by rw [stN_zero]; exact idL_idem n
  | k + 1, hk => by
    have hg : ins[k]? = some ins[k] := List.getElem?_eq_getElem (by omega)
    rw [stN_succ hg]
    exact step_idem (stN_rng (idL_rng n) hi k (by omega)) (stN_idem hi k (by omega)) (hi _ (List.getElem_mem _))
theorem atL_idem {l : List Int} {n : Nat} (hr : Rng l n) (h : Idem l) {x : Int} (h0 : 0 ≤ x) (h1 : x < n) : atL l (atL l x) = atL l x := by
  have hat := atL_get hr h0 h1
  have := h _ _ hat.1
  unfold atL at this ⊢
  rw [List.getD_eq_getElem?_getD, this]; rfl
theorem fwdTac_ok {l : List Int} {n : Nat} (hr : Rng l n) {t : Tac} (ht : t.okR n) : (fwdTac l t).okR n := by
  refine ⟨fun x hx => ?_, fun hs => ?_⟩
  · unfold Tac.uses usesL at hx
    rw [fwdTac_op] at hx
    by_cases h1 : t.op = 2 ∨ t.op = 5 ∨ t.op = 6 ∨ t.op = 9
    · rw [if_pos h1] at hx
      have ha := uses_a ht (by omega)
      have hfa : (fwdTac l t).a = atL l t.a := by unfold fwdTac; rw [if_pos h1]
      simp only [List.mem_singleton] at hx
      subst hx
      rw [hfa]
      exact (atL_get hr ha.1 ha.2).2
    · rw [if_neg h1] at hx
      by_cases h2 : t.op = 3 ∨ t.op = 7
      · rw [if_pos h2] at hx
        have ha := uses_a ht (by omega)
        have hb := uses_b ht h2
        have hfa : (fwdTac l t).a = atL l t.a := by unfold fwdTac; rw [if_neg h1, if_pos h2]
        have hfb : (fwdTac l t).b = atL l t.b := by unfold fwdTac; rw [if_neg h1, if_pos h2]
        simp only [List.mem_cons, List.not_mem_nil, or_false] at hx
        rcases hx with rfl | rfl
        · rw [hfa]; exact (atL_get hr ha.1 ha.2).2
        · rw [hfb]; exact (atL_get hr hb.1 hb.2).2
      · rw [if_neg h2] at hx; cases hx
  · rw [fwdTac_sets] at hs ⊢
    exact ht.2 hs
theorem fwdTac_twice {l : List Int} {n : Nat} (hr : Rng l n) (h : Idem l) {t : Tac} (ht : t.okR n) : fwdTac l (fwdTac l t) = fwdTac l t := by
  by_cases h1 : t.op = 2 ∨ t.op = 5 ∨ t.op = 6 ∨ t.op = 9
  · have ha := uses_a ht (by omega)
    have e : fwdTac l t = { t with a := atL l t.a } := by unfold fwdTac; rw [if_pos h1]
    rw [e]
    unfold fwdTac
    rw [if_pos h1]
    simp only [atL_idem hr h ha.1 ha.2]
  · by_cases h2 : t.op = 3 ∨ t.op = 7
    · have ha := uses_a ht (by omega)
      have hb := uses_b ht h2
      have e : fwdTac l t = { t with a := atL l t.a, b := atL l t.b } := by unfold fwdTac; rw [if_neg h1, if_pos h2]
      rw [e]
      unfold fwdTac
      rw [if_neg h1, if_pos h2]
      simp only [atL_idem hr h ha.1 ha.2, atL_idem hr h hb.1 hb.2]
    · have e : fwdTac l t = t := by unfold fwdTac; rw [if_neg h1, if_neg h2]
      rw [e, e]
theorem fwdStep_twice {l : List Int} {n : Nat} (hr : Rng l n) (h : Idem l) {t : Tac} (ht : t.okR n) : fwdStep l (fwdTac l t) = fwdStep l t := by
  unfold fwdStep
  rw [fwdTac_sets, fwdTac_op]
  by_cases hop : t.op = 2
  · have ha := uses_a ht (.inl hop)
    rw [fwdTac_a hop, atL_idem hr h ha.1 ha.2]
  · simp [hop]
theorem outs_get (l0 : List Int) (ins : List Tac) (k : Nat) : (outs l0 ins)[k]? = (ins[k]?).map (fwdTac (stN l0 ins k)) := by simp [outs, List.getElem?_mapIdx]
theorem outs_len (l0 : List Int) (ins : List Tac) : (outs l0 ins).length = ins.length := by simp [outs]
theorem outs_ok {n : Nat} {ins : List Tac} (hi : ∀ t ∈ ins, t.okR n) : ∀ t ∈ outs (idL n) ins, t.okR n := by
  intro t ht
  obtain ⟨k, hk⟩ := List.getElem?_of_mem ht
  rw [outs_get] at hk
  cases hg : ins[k]? with
  | none => rw [hg] at hk; cases hk
  | some u =>
    rw [hg] at hk
    cases hk
    have hkl := (List.getElem?_eq_some_iff.1 hg).1
    exact fwdTac_ok (stN_rng (idL_rng n) hi k (by omega)) (hi u (List.mem_of_getElem? hg))
theorem stN_twice {n : Nat} {ins : List Tac} (hi : ∀ t ∈ ins, t.okR n) : ∀ k, k ≤ ins.length → stN (idL n) (outs (idL n) ins) k = stN (idL n) ins k
  | 0, _ => by rw [stN_zero, stN_zero]
  | k + 1, hk => by
    have hg : ins[k]? = some ins[k] := List.getElem?_eq_getElem (by omega)
    have hg2 : (outs (idL n) ins)[k]? = some (fwdTac (stN (idL n) ins k) ins[k]) := by rw [outs_get, hg]; rfl
    rw [stN_succ hg, stN_succ hg2, stN_twice hi k (by omega)]
    exact fwdStep_twice (stN_rng (idL_rng n) hi k (by omega)) (stN_idem hi k (by omega)) (hi _ (List.getElem_mem _))
theorem outs_twice {n : Nat} {ins : List Tac} (hi : ∀ t ∈ ins, t.okR n) : outs (idL n) (outs (idL n) ins) = outs (idL n) ins := by
  apply List.ext_getElem?
  intro k
  rw [outs_get, outs_get]
  cases hg : ins[k]? with
  | none => rfl
  | some u =>
    have hkl := (List.getElem?_eq_some_iff.1 hg).1
    simp only [Option.map_some, Option.some.injEq]
    rw [stN_twice hi k (by omega)]
    exact fwdTac_twice (stN_rng (idL_rng n) hi k (by omega)) (stN_idem hi k (by omega)) (hi u (List.mem_of_getElem? hg))
theorem fwdBlk_ok {n : Nat} {b : Blk} (h : b.okR n) : (fwdBlk n b).okR n := by
  refine ⟨?_, fun he => ?_⟩
  · simp only [fwdBlk, Int.toNat_natCast]
    exact outs_ok h.ins
  · have he' : b.en = 2 := he
    have hv := h.v he'
    simp only [fwdBlk, Int.toNat_natCast]
    rw [if_pos he']
    exact (atL_get (stN_rng (idL_rng n) h.ins b.ins.length (Nat.le_refl _)) hv.1 hv.2).2
theorem fwdBlk_len (n : Int) (b : Blk) : (fwdBlk n b).ins.length = b.ins.length := by simp [fwdBlk, outs_len]
theorem fwdBlk_twice {n : Nat} {b : Blk} (h : b.okR n) : fwdBlk n (fwdBlk n b) = fwdBlk n b := by
  apply Blk.ext'
  · simp only [fwdBlk, Int.toNat_natCast]; exact outs_twice h.ins
  · rfl
  · simp only [fwdBlk, Int.toNat_natCast, outs_len]
    by_cases he : b.en = 2
    · have hv := h.v he
      rw [if_pos he, if_pos he, stN_twice h.ins b.ins.length (Nat.le_refl _)]
      exact atL_idem (stN_rng (idL_rng n) h.ins b.ins.length (Nat.le_refl _)) (stN_idem h.ins b.ins.length (Nat.le_refl _)) hv.1 hv.2
    · rw [if_neg he, if_neg he]
  · rfl
  · rfl
end Go.Proofs.Ytmfhdhiaokejdaa

namespace Go.Proofs.Ytmfhdhiaokejdaa
open Go Go.Ab
set_option linter.unusedSimpArgs false
set_option linter.unusedVariables false
theorem sets_nat {t : Tac} {v : Nat} (h : t.sets = (v : Int)) : 0 ≤ t.sets ∧ t.sets.toNat = v := by omega
/-- A register that is not set, and whose source is not set, keeps its source. -/
theorem step_keep {l : List Int} {t : Tac} {v x : Nat} (h1 : t.sets ≠ (v : Int)) (h2 : t.sets ≠ (x : Int)) (h : l[v]? = some (x : Int)) : (fwdStep l t)[v]? = some (x : Int) := by
  have hf : 0 ≤ t.sets → (fwdForget l t.sets.toNat)[v]? = some (x : Int) := fun h0 => by
    rw [forget_get, if_neg (by omega), h]
    simp only [Option.map_some, Option.some.injEq]
    rw [if_neg (by omega)]
  unfold fwdStep
  split
  · rename_i h0
    split
    · rw [List.getElem?_set, if_neg (by omega)]; exact hf h0
    · exact hf h0
  · exact h
theorem stN_keep {l0 : List Int} {ins : List Tac} {v x lo : Nat} (h : (stN l0 ins lo)[v]? = some (x : Int)) : ∀ m, lo ≤ m → m ≤ ins.length → (∀ k t, lo ≤ k → k < m → ins[k]? = some t → t.sets ≠ (v : Int) ∧ t.sets ≠ (x : Int)) → (stN l0 ins m)[v]? = some (x : Int)
  | 0, h1, _, _ => by obtain rfl : lo = 0 := by omega
                      exact h
  | m + 1, h1, h2, hs => by
    by_cases e : lo = m + 1
    · subst e; exact h
    · have hg : ins[m]? = some ins[m] := List.getElem?_eq_getElem (by omega)
      rw [stN_succ hg]
      have := hs m ins[m] (by omega) (by omega) hg
      exact step_keep this.1 this.2 (stN_keep h m (by omega) (by omega) fun k t hk1 hk2 => hs k t hk1 (by omega))
theorem copy_inv {ins : List Tac} {v : Int} {hi : Nat} : ∀ {i : Nat}, copyFrom ins v hi i = true → ∃ k t, k < i ∧ ins[k]? = some t ∧ t.sets = v ∧ t.op = 2 ∧ t.a ≠ v ∧ noSet ins t.a (k + 1) hi = true ∧ ∀ k' t', k < k' → k' < i → ins[k']? = some t' → t'.sets ≠ v
  | 0, h => by cases h
  | i + 1, h => by
    cases hg : ins[i]? with
    | none => simp [copyFrom, hg] at h
    | some t =>
      rw [copyFrom_succ hg] at h
      split at h
      · rename_i hs
        split at h
        · rename_i ho
          exact ⟨i, t, by omega, hg, hs, ho.1, ho.2, h, fun k' t' h1 h2 => by omega⟩
        · cases h
      · rename_i hs
        obtain ⟨k, t', h1, h2, h3, h4, h5, h6, h7⟩ := copy_inv h
        refine ⟨k, t', by omega, h2, h3, h4, h5, h6, fun j u hj1 hj2 hu => ?_⟩
        by_cases e : j = i
        · subst e; rw [hg] at hu; cases hu; exact hs
        · exact h7 j u hj1 (by omega) hu
theorem outs_inv {l0 : List Int} {ins : List Tac} {k : Nat} {t : Tac} (h : (outs l0 ins)[k]? = some t) : ∃ u, ins[k]? = some u ∧ t = fwdTac (stN l0 ins k) u := by
  rw [outs_get] at h
  cases hg : ins[k]? with
  | none => rw [hg] at h; cases h
  | some u => rw [hg] at h; cases h; exact ⟨u, rfl, rfl⟩
theorem outs_mk {l0 : List Int} {ins : List Tac} {k : Nat} {u : Tac} (h : ins[k]? = some u) : (outs l0 ins)[k]? = some (fwdTac (stN l0 ins k) u) := by rw [outs_get, h]; rfl
/-- If the forwarded text says that v is a copy, forwarding says so too. -/
theorem copy_moved {n : Nat} {ins : List Tac} (hi : ∀ t ∈ ins, t.okR n) {v hgh : Nat} (hv : v < n) (hl : hgh ≤ ins.length) (h : copyFrom (outs (idL n) ins) v hgh hgh = true) : atL (stN (idL n) ins hgh) v ≠ v := by
  obtain ⟨k, t, h1, h2, h3, h4, h5, h6, h7⟩ := copy_inv h
  obtain ⟨u, hu, rfl⟩ := outs_inv h2
  rw [fwdTac_sets] at h3
  rw [fwdTac_op] at h4
  rw [fwdTac_a h4] at h5 h6
  have hmem := List.mem_of_getElem? hu
  have ha := uses_a (hi u hmem) (.inl h4)
  have hr := stN_rng (idL_rng n) hi k (by omega)
  have hat := atL_get hr ha.1 ha.2
  obtain ⟨x, hx⟩ : ∃ x : Nat, atL (stN (idL n) ins k) u.a = x := ⟨(atL (stN (idL n) ins k) u.a).toNat, by omega⟩
  rw [hx] at h5 h6
  obtain ⟨s0, s1⟩ := sets_nat h3
  have hstart : (stN (idL n) ins (k + 1))[v]? = some (x : Int) := by
    rw [stN_succ hu]
    unfold fwdStep
    rw [if_pos s0, if_pos ⟨h4, by rw [hx, h3]; exact h5⟩, s1, hx]
    rw [List.getElem?_set, if_pos rfl, if_pos (by rw [forget_len, hr.1]; exact hv)]
  have hend := stN_keep hstart hgh (by omega) hl fun j t' hj1 hj2 ht' => by
    have ho := outs_mk (l0 := idL n) ht'
    refine ⟨fun e => h7 j _ (by omega) hj2 ho (by rw [fwdTac_sets]; exact e), fun e => ?_⟩
    rw [noSet_no (x := (x : Int)) (lo := k + 1) (by omega) hj2 ho (by rw [fwdTac_sets]; exact e)] at h6
    cases h6
  intro e
  unfold atL at e
  rw [List.getD_eq_getElem?_getD, Int.toNat_natCast, hend] at e
  exact h5 e
theorem uses_fwd {l : List Int} {n : Nat} (hr : Rng l n) (h : Idem l) {t : Tac} (ht : t.okR n) {r : Int} (hm : r ∈ (fwdTac l t).uses) : 0 ≤ r ∧ r < n ∧ atL l r = r := by
  have hb := (fwdTac_ok hr ht).1 r hm
  refine ⟨hb.1, hb.2, ?_⟩
  unfold Tac.uses usesL at hm
  rw [fwdTac_op] at hm
  by_cases h1 : t.op = 2 ∨ t.op = 5 ∨ t.op = 6 ∨ t.op = 9
  · rw [if_pos h1] at hm
    have ha := uses_a ht (by omega)
    have hfa : (fwdTac l t).a = atL l t.a := by unfold fwdTac; rw [if_pos h1]
    simp only [List.mem_singleton] at hm
    rw [hm, hfa]; exact atL_idem hr h ha.1 ha.2
  · rw [if_neg h1] at hm
    by_cases h2 : t.op = 3 ∨ t.op = 7
    · rw [if_pos h2] at hm
      have ha := uses_a ht (by omega)
      have hb := uses_b ht h2
      have hfa : (fwdTac l t).a = atL l t.a := by unfold fwdTac; rw [if_neg h1, if_pos h2]
      have hfb : (fwdTac l t).b = atL l t.b := by unfold fwdTac; rw [if_neg h1, if_pos h2]
      simp only [List.mem_cons, List.not_mem_nil, or_false] at hm
      rcases hm with hm | hm
      · rw [hm, hfa]; exact atL_idem hr h ha.1 ha.2
      · rw [hm, hfb]; exact atL_idem hr h hb.1 hb.2
    · rw [if_neg h2] at hm; cases hm
theorem done_fwd {n : Nat} {b : Blk} (h : b.okR n) : doneB (fwdBlk n b) = true := by
  apply doneB_yes
  intro i hi r hr
  rw [fwdBlk_len] at hi
  have key : 0 ≤ r ∧ r < n ∧ atL (stN (idL n) b.ins i) r = r := by
    by_cases hlt : i < b.ins.length
    · have hg : b.ins[i]? = some b.ins[i] := List.getElem?_eq_getElem hlt
      have ho : (fwdBlk n b).ins[i]? = some (fwdTac (stN (idL n) b.ins i) b.ins[i]) := by simp only [fwdBlk, Int.toNat_natCast]; exact outs_mk hg
      rw [readsAt_lt ho] at hr
      exact uses_fwd (stN_rng (idL_rng n) h.ins i hi) (stN_idem h.ins i hi) (h.ins _ (List.getElem_mem _)) hr
    · obtain rfl : i = b.ins.length := by omega
      rw [← fwdBlk_len n b, readsAt_end] at hr
      have e : (fwdBlk n b).en = b.en := rfl
      rw [e] at hr
      split at hr
      · rename_i he
        have hv := h.v he
        have e2 : (fwdBlk n b).v = atL (stN (idL n) b.ins b.ins.length) b.v := by simp only [fwdBlk, Int.toNat_natCast]; rw [if_pos he]
        simp only [List.mem_singleton] at hr
        rw [hr, e2]
        have hrn := stN_rng (idL_rng n) h.ins b.ins.length (Nat.le_refl _)
        exact ⟨(atL_get hrn hv.1 hv.2).2.1, (atL_get hrn hv.1 hv.2).2.2, atL_idem hrn (stN_idem h.ins _ (Nat.le_refl _)) hv.1 hv.2⟩
      · cases hr
  cases hc : copyB (fwdBlk n b) i r with
  | false => rfl
  | true =>
    exfalso
    have er : ((r.toNat : Nat) : Int) = r := Int.toNat_of_nonneg key.1
    have hc' : copyFrom (outs (idL n) b.ins) (r.toNat : Nat) i i = true := by
      rw [er]
      unfold copyB at hc
      simp only [fwdBlk, Int.toNat_natCast] at hc
      exact hc
    have := copy_moved h.ins (v := r.toNat) (by omega) hi hc'
    rw [er] at this
    exact this key.2.2
end Go.Proofs.Ytmfhdhiaokejdaa
