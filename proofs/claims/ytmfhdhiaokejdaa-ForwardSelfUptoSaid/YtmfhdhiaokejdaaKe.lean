/- Law 31, ForwardShapes, walked. -/
import Derived.Test.YtmfhdhiaokejdaaKA
import Derived.Test.YtmfhdhiaokejdaaK7
namespace Go.Proofs.Ytmfhdhiaokejdaa
open Go Go.Ab
set_option linter.unusedSimpArgs false
set_option linter.unusedVariables false
theorem fwdTac_shape (l : List Int) (t : Tac) : (fwdTac l t).op = t.op ∧ (fwdTac l t).d = t.d ∧ (fwdTac l t).k = t.k ∧ (fwdTac l t).base = t.base ∧ (fwdTac l t).size = t.size ∧ (fwdTac l t).n = t.n := by
  unfold fwdTac; split <;> (try split) <;> exact ⟨rfl, rfl, rfl, rfl, rfl, rfl⟩
structure Shaped (a b : Tac) : Prop where
  op : a.op = b.op
  d : a.d = b.d
  k : a.k = b.k
  base : a.base = b.base
  size : a.size = b.size
  n : a.n = b.n
theorem fwdBlk_shape {n : Int} {b : Blk} {j : Nat} (h : j < (fwdBlk n b).ins.length) (h' : j < b.ins.length) : Shaped ((fwdBlk n b).ins[j]'h) (b.ins[j]'h') := by
  have e : (fwdBlk n b).ins[j]'h = fwdTac (stN (idL n.toNat) b.ins j) (b.ins[j]'h') := by simp [fwdBlk, outs]
  obtain ⟨h1, h2, h3, h4, h5, h6⟩ := fwdTac_shape (stN (idL n.toNat) b.ins j) (b.ins[j]'h')
  rw [e]
  exact ⟨h1, h2, h3, h4, h5, h6⟩
@[simp] theorem fwdBlk_en (n : Int) (b : Blk) : (fwdBlk n b).en = b.en := rfl
@[simp] theorem fwdBlk_to (n : Int) (b : Blk) : (fwdBlk n b).to = b.to := rfl
@[simp] theorem fwdBlk_el (n : Int) (b : Blk) : (fwdBlk n b).el = b.el := rfl
attribute [simp] fwdBlk_len
set_option maxHeartbeats 4000000 in
theorem d4 (f : Fn) (ha : f.fits) : (lim Try.prog E31 X31).dat 4 [.agg f.row] = some [bv true] := by
  refine fnW Try.func4 rfl rfl bodyOk_4 rfl rtys_4 rfl ?_
  by_cases hs : smallB f = true
  · have h11 := d11 f ha
    obtain ⟨n, bs, rfl, hn, hbs, hins, hok, hone⟩ := small_good hs
    rw [hs] at h11
    have hfs := fwd_small hn hbs hins
    have h13 := d13 n bs (by omega) (by omega) (fun b hb => by have := hins b hb; omega) hok
    have htk : (bs.map (gB n)).take bs.length = bs.map (gB n) := List.take_of_length_le (by simp)
    have htc : (bs.map (gC n)).take bs.length = bs.map (gC n) := List.take_of_length_le (by simp)
    have H18 := Lib.hid hins
    clear hins hok hone hfs hs
    repeat' (first
      | ((with_reducible apply Wo_u); (conv => lhs; simp -implicitDefEqProofs [*]) <;> exact rfl)
      | ((with_reducible apply Wo_n); (conv => lhs; simp -implicitDefEqProofs [*]) <;> exact rfl)
      | (with_reducible apply Wo_nil)
      | ((with_reducible apply Wo_gt); (exact rfl); ((conv => lhs; simp -implicitDefEqProofs [*]) <;> exact rfl); (conv => lhs; simp -implicitDefEqProofs [*]) <;> exact rfl)
      | ((with_reducible apply Wo_gf); (exact rfl); ((conv => lhs; simp -implicitDefEqProofs [*]) <;> exact rfl); (exact rfl))
      | ((with_reducible apply Wo_gx); (exact rfl); ((conv => lhs; simp -implicitDefEqProofs [*]) <;> exact rfl))
      | ((with_reducible apply Wo_gsT); (exact rfl); ((conv => lhs; simp -implicitDefEqProofs [*]) <;> exact rfl))
      | ((with_reducible apply Wo_gsF); (exact rfl); ((conv => lhs; simp -implicitDefEqProofs [*]) <;> exact rfl))
      | ((with_reducible apply ex2); (conv => lhs; simp -implicitDefEqProofs [*]) <;> exact rfl)
      | (with_reducible apply W_ss) | (with_reducible apply W_srl) | (with_reducible apply W_rl)
      | ((with_reducible apply W_sc); (conv => lhs; simp -implicitDefEqProofs [*]) <;> exact rfl)
      | ((with_reducible apply W_c); (conv => lhs; simp -implicitDefEqProofs [*]) <;> exact rfl)
      | ((with_reducible apply W_srdl); kernel_rfl) | ((with_reducible apply W_rdl); kernel_rfl)
      | ((with_reducible apply Wd_u); (conv => lhs; simp -implicitDefEqProofs [*]) <;> exact rfl)
      | ((with_reducible apply Wd_n); (conv => lhs; simp -implicitDefEqProofs [*]) <;> exact rfl)
      | ((with_reducible apply Wd_nil); exact rfl)
      | ((with_reducible apply Wd_gsT); (exact rfl); ((conv => lhs; simp -implicitDefEqProofs [*]) <;> exact rfl))
      | ((with_reducible apply Wd_gsF); (exact rfl); ((conv => lhs; simp -implicitDefEqProofs [*]) <;> exact rfl))
      | ((with_reducible apply ex4); (conv => lhs; simp -implicitDefEqProofs [*]) <;> exact rfl)
      | (with_reducible apply W_sblock) | (with_reducible apply W_block) | (with_reducible apply W_sskip) | (with_reducible apply W_skip) | (with_reducible apply W_sret) | (with_reducible apply W_ret) | (with_reducible apply W_sexit) | (with_reducible apply W_exit)
      | (with_reducible apply thenW_n) | (with_reducible apply thenW_r) | (with_reducible apply thenW_e) | (with_reducible apply inB_n) | (with_reducible apply inB_r) | (with_reducible apply inB_e) | ((with_reducible apply inB_o); rotate_left; exact rfl)
      | ((with_reducible apply EndQ_ret); (conv => lhs; simp -implicitDefEqProofs [*]) <;> exact rfl) | ((with_reducible apply EndQ_normal); (conv => lhs; simp -implicitDefEqProofs [*]) <;> exact rfl)
      | (intro h h'; try simp [*, -h] at h'))
    refine W_loopS (n := bs.length) (fun s0 m s => ∃ k : Nat, m = bs.length - k ∧ k ≤ bs.length ∧ s.fr 5 = iv k ∧ s.fr 1 = s0.fr 1 ∧ s.fr 2 = s0.fr 2 ∧ s.fr 3 = s0.fr 3 ∧ s.hp ⟨0, 1, 0⟩ = s0.hp ⟨0, 1, 0⟩ ∧ s.hp ⟨0, 3, 0⟩ = s0.hp ⟨0, 3, 0⟩ ∧ s.hp ⟨0, 3, 2⟩ = s0.hp ⟨0, 3, 2⟩) ⟨0, by simp, by first | omega | simp, by simp, by simp, by simp, by simp, by simp, by simp, by simp⟩ ?_
    rintro m ⟨fr, hp⟩ ⟨k, rfl, hk, hs5, hs1, hs2, hs3, hh1, hh3, hh0_3_2⟩
    simp at hs5 hs1 hs2 hs3 hh1 hh3 hh0_3_2
    by_cases hlt : k < bs.length
    · have hg := List.getElem?_eq_getElem hlt
      have hw := wrapN (k := k) (by omega)
      have hbl := H18.out bs[k] (List.getElem_mem hlt)
      repeat' (first
        | ((with_reducible apply Wo_u); (conv => lhs; simp -implicitDefEqProofs [*]) <;> exact rfl)
        | ((with_reducible apply Wo_n); (conv => lhs; simp -implicitDefEqProofs [*]) <;> exact rfl)
        | (with_reducible apply Wo_nil)
        | ((with_reducible apply Wo_gt); (exact rfl); ((conv => lhs; simp -implicitDefEqProofs [*]) <;> exact rfl); (conv => lhs; simp -implicitDefEqProofs [*]) <;> exact rfl)
        | ((with_reducible apply Wo_gf); (exact rfl); ((conv => lhs; simp -implicitDefEqProofs [*]) <;> exact rfl); (exact rfl))
        | ((with_reducible apply Wo_gx); (exact rfl); ((conv => lhs; simp -implicitDefEqProofs [*]) <;> exact rfl))
        | ((with_reducible apply Wo_gsT); (exact rfl); ((conv => lhs; simp -implicitDefEqProofs [*]) <;> exact rfl))
        | ((with_reducible apply Wo_gsF); (exact rfl); ((conv => lhs; simp -implicitDefEqProofs [*]) <;> exact rfl))
        | ((with_reducible apply ex2); (conv => lhs; simp -implicitDefEqProofs [*]) <;> exact rfl)
        | (with_reducible apply W_ss) | (with_reducible apply W_srl) | (with_reducible apply W_rl)
        | ((with_reducible apply W_sc); (conv => lhs; simp -implicitDefEqProofs [*]) <;> exact rfl)
        | ((with_reducible apply W_c); (conv => lhs; simp -implicitDefEqProofs [*]) <;> exact rfl)
        | ((with_reducible apply W_srdl); kernel_rfl) | ((with_reducible apply W_rdl); kernel_rfl)
        | ((with_reducible apply Wd_u); (conv => lhs; simp -implicitDefEqProofs [*]) <;> exact rfl)
        | ((with_reducible apply Wd_n); (conv => lhs; simp -implicitDefEqProofs [*]) <;> exact rfl)
        | ((with_reducible apply Wd_nil); exact rfl)
        | ((with_reducible apply Wd_gsT); (exact rfl); ((conv => lhs; simp -implicitDefEqProofs [*]) <;> exact rfl))
        | ((with_reducible apply Wd_gsF); (exact rfl); ((conv => lhs; simp -implicitDefEqProofs [*]) <;> exact rfl))
        | ((with_reducible apply ex4); (conv => lhs; simp -implicitDefEqProofs [*]) <;> exact rfl)
        | (with_reducible apply W_sblock) | (with_reducible apply W_block) | (with_reducible apply W_sskip) | (with_reducible apply W_skip) | (with_reducible apply W_sret) | (with_reducible apply W_ret) | (with_reducible apply W_sexit) | (with_reducible apply W_exit)
        | (with_reducible apply thenW_n) | (with_reducible apply thenW_r) | (with_reducible apply thenW_e) | (with_reducible apply inB_n) | (with_reducible apply inB_r) | (with_reducible apply inB_e) | ((with_reducible apply inB_o); rotate_left; exact rfl)
        | ((with_reducible apply EndQ_ret); (conv => lhs; simp -implicitDefEqProofs [*]) <;> exact rfl) | ((with_reducible apply EndQ_normal); (conv => lhs; simp -implicitDefEqProofs [*]) <;> exact rfl)
        | (intro h h'; try simp [*, -h] at h'))
      refine W_loopS (n := bs[k].ins.length) (fun s0 m s => ∃ j : Nat, m = bs[k].ins.length - j ∧ j ≤ bs[k].ins.length ∧ s.fr 8 = iv j ∧ s.fr 1 = s0.fr 1 ∧ s.fr 2 = s0.fr 2 ∧ s.fr 3 = s0.fr 3 ∧ s.fr 5 = s0.fr 5 ∧ s.fr 6 = s0.fr 6 ∧ s.fr 7 = s0.fr 7 ∧ s.hp ⟨0, 1, 0⟩ = s0.hp ⟨0, 1, 0⟩ ∧ s.hp ⟨0, 3, 0⟩ = s0.hp ⟨0, 3, 0⟩ ∧ s.hp ⟨0, 3, 2⟩ = s0.hp ⟨0, 3, 2⟩ ∧ s.hp ⟨0, 6, 0⟩ = s0.hp ⟨0, 6, 0⟩ ∧ s.hp ⟨0, 7, 0⟩ = s0.hp ⟨0, 7, 0⟩ ∧ s.hp ⟨0, 7, 1⟩ = s0.hp ⟨0, 7, 1⟩) ⟨0, by simp, by first | omega | simp, by simp, by simp, by simp, by simp, by simp, by simp, by simp, by simp, by simp, by simp, by simp, by simp, by simp⟩ ?_
      rintro m ⟨fr, hp⟩ ⟨j, rfl, hk, hs8, hs1, hs2, hs3, hs5, hs6, hs7, hh1, hh3, hh0_3_2, hh6, hh7, hh0_7_1⟩
      simp at hs8 hs1 hs2 hs3 hs5 hs6 hs7 hh1 hh3 hh0_3_2 hh6 hh7 hh0_7_1
      by_cases hlj : j < bs[k].ins.length
      · have hlj2 : j < (fwdBlk n bs[k]).ins.length := by simpa using hlj
        have hwj := wrapN (k := j) (by omega)
        obtain ⟨e1, e2, e3, e4, e5, e6⟩ := fwdBlk_shape hlj2 hlj
        repeat' (first
          | ((with_reducible apply Wo_u); (conv => lhs; simp -implicitDefEqProofs [*]) <;> exact rfl)
          | ((with_reducible apply Wo_n); (conv => lhs; simp -implicitDefEqProofs [*]) <;> exact rfl)
          | (with_reducible apply Wo_nil)
          | ((with_reducible apply Wo_gt); (exact rfl); ((conv => lhs; simp -implicitDefEqProofs [*]) <;> exact rfl); (conv => lhs; simp -implicitDefEqProofs [*]) <;> exact rfl)
          | ((with_reducible apply Wo_gf); (exact rfl); ((conv => lhs; simp -implicitDefEqProofs [*]) <;> exact rfl); (exact rfl))
          | ((with_reducible apply Wo_gx); (exact rfl); ((conv => lhs; simp -implicitDefEqProofs [*]) <;> exact rfl))
          | ((with_reducible apply Wo_gsT); (exact rfl); ((conv => lhs; simp -implicitDefEqProofs [*]) <;> exact rfl))
          | ((with_reducible apply Wo_gsF); (exact rfl); ((conv => lhs; simp -implicitDefEqProofs [*]) <;> exact rfl))
          | ((with_reducible apply ex2); (conv => lhs; simp -implicitDefEqProofs [*]) <;> exact rfl)
          | (with_reducible apply W_ss) | (with_reducible apply W_srl) | (with_reducible apply W_rl)
          | ((with_reducible apply W_sc); (conv => lhs; simp -implicitDefEqProofs [*]) <;> exact rfl)
          | ((with_reducible apply W_c); (conv => lhs; simp -implicitDefEqProofs [*]) <;> exact rfl)
          | ((with_reducible apply W_srdl); kernel_rfl) | ((with_reducible apply W_rdl); kernel_rfl)
          | ((with_reducible apply Wd_u); (conv => lhs; simp -implicitDefEqProofs [*]) <;> exact rfl)
          | ((with_reducible apply Wd_n); (conv => lhs; simp -implicitDefEqProofs [*]) <;> exact rfl)
          | ((with_reducible apply Wd_nil); exact rfl)
          | ((with_reducible apply Wd_gsT); (exact rfl); ((conv => lhs; simp -implicitDefEqProofs [*]) <;> exact rfl))
          | ((with_reducible apply Wd_gsF); (exact rfl); ((conv => lhs; simp -implicitDefEqProofs [*]) <;> exact rfl))
          | ((with_reducible apply ex4); (conv => lhs; simp -implicitDefEqProofs [*]) <;> exact rfl)
          | (with_reducible apply W_sblock) | (with_reducible apply W_block) | (with_reducible apply W_sskip) | (with_reducible apply W_skip) | (with_reducible apply W_sret) | (with_reducible apply W_ret) | (with_reducible apply W_sexit) | (with_reducible apply W_exit)
          | (with_reducible apply thenW_n) | (with_reducible apply thenW_r) | (with_reducible apply thenW_e) | (with_reducible apply inB_n) | (with_reducible apply inB_r) | (with_reducible apply inB_e) | ((with_reducible apply inB_o); rotate_left; exact rfl)
          | ((with_reducible apply EndQ_ret); (conv => lhs; simp -implicitDefEqProofs [*]) <;> exact rfl) | ((with_reducible apply EndQ_normal); (conv => lhs; simp -implicitDefEqProofs [*]) <;> exact rfl)
          | (intro h h'; try simp [*, -h] at h'))
        exact ⟨_, by omega, j + 1, rfl, hlj, by simp, by simp [*], by simp [*], by simp [*], by simp [*], by simp [*], by simp [*], by simp [*], by simp [*], by simp [*], by simp [*], by simp [*], by simp [*]⟩
      · obtain rfl : j = bs[k].ins.length := by omega
        repeat' (first
          | ((with_reducible apply Wo_u); (conv => lhs; simp -implicitDefEqProofs [*]) <;> exact rfl)
          | ((with_reducible apply Wo_n); (conv => lhs; simp -implicitDefEqProofs [*]) <;> exact rfl)
          | (with_reducible apply Wo_nil)
          | ((with_reducible apply Wo_gt); (exact rfl); ((conv => lhs; simp -implicitDefEqProofs [*]) <;> exact rfl); (conv => lhs; simp -implicitDefEqProofs [*]) <;> exact rfl)
          | ((with_reducible apply Wo_gf); (exact rfl); ((conv => lhs; simp -implicitDefEqProofs [*]) <;> exact rfl); (exact rfl))
          | ((with_reducible apply Wo_gx); (exact rfl); ((conv => lhs; simp -implicitDefEqProofs [*]) <;> exact rfl))
          | ((with_reducible apply Wo_gsT); (exact rfl); ((conv => lhs; simp -implicitDefEqProofs [*]) <;> exact rfl))
          | ((with_reducible apply Wo_gsF); (exact rfl); ((conv => lhs; simp -implicitDefEqProofs [*]) <;> exact rfl))
          | ((with_reducible apply ex2); (conv => lhs; simp -implicitDefEqProofs [*]) <;> exact rfl)
          | (with_reducible apply W_ss) | (with_reducible apply W_srl) | (with_reducible apply W_rl)
          | ((with_reducible apply W_sc); (conv => lhs; simp -implicitDefEqProofs [*]) <;> exact rfl)
          | ((with_reducible apply W_c); (conv => lhs; simp -implicitDefEqProofs [*]) <;> exact rfl)
          | ((with_reducible apply W_srdl); kernel_rfl) | ((with_reducible apply W_rdl); kernel_rfl)
          | ((with_reducible apply Wd_u); (conv => lhs; simp -implicitDefEqProofs [*]) <;> exact rfl)
          | ((with_reducible apply Wd_n); (conv => lhs; simp -implicitDefEqProofs [*]) <;> exact rfl)
          | ((with_reducible apply Wd_nil); exact rfl)
          | ((with_reducible apply Wd_gsT); (exact rfl); ((conv => lhs; simp -implicitDefEqProofs [*]) <;> exact rfl))
          | ((with_reducible apply Wd_gsF); (exact rfl); ((conv => lhs; simp -implicitDefEqProofs [*]) <;> exact rfl))
          | ((with_reducible apply ex4); (conv => lhs; simp -implicitDefEqProofs [*]) <;> exact rfl)
          | (with_reducible apply W_sblock) | (with_reducible apply W_block) | (with_reducible apply W_sskip) | (with_reducible apply W_skip) | (with_reducible apply W_sret) | (with_reducible apply W_ret) | (with_reducible apply W_sexit) | (with_reducible apply W_exit)
          | (with_reducible apply thenW_n) | (with_reducible apply thenW_r) | (with_reducible apply thenW_e) | (with_reducible apply inB_n) | (with_reducible apply inB_r) | (with_reducible apply inB_e) | ((with_reducible apply inB_o); rotate_left; exact rfl)
          | ((with_reducible apply EndQ_ret); (conv => lhs; simp -implicitDefEqProofs [*]) <;> exact rfl) | ((with_reducible apply EndQ_normal); (conv => lhs; simp -implicitDefEqProofs [*]) <;> exact rfl)
          | (intro h h'; try simp [*, -h] at h'))
        exact ⟨_, by omega, k + 1, rfl, hlt, by simp, by simp [*], by simp [*], by simp [*], by simp [*], by simp [*], by simp [*]⟩
    · obtain rfl : k = bs.length := by omega
      repeat' (first
        | ((with_reducible apply Wo_u); (conv => lhs; simp -implicitDefEqProofs [*]) <;> exact rfl)
        | ((with_reducible apply Wo_n); (conv => lhs; simp -implicitDefEqProofs [*]) <;> exact rfl)
        | (with_reducible apply Wo_nil)
        | ((with_reducible apply Wo_gt); (exact rfl); ((conv => lhs; simp -implicitDefEqProofs [*]) <;> exact rfl); (conv => lhs; simp -implicitDefEqProofs [*]) <;> exact rfl)
        | ((with_reducible apply Wo_gf); (exact rfl); ((conv => lhs; simp -implicitDefEqProofs [*]) <;> exact rfl); (exact rfl))
        | ((with_reducible apply Wo_gx); (exact rfl); ((conv => lhs; simp -implicitDefEqProofs [*]) <;> exact rfl))
        | ((with_reducible apply Wo_gsT); (exact rfl); ((conv => lhs; simp -implicitDefEqProofs [*]) <;> exact rfl))
        | ((with_reducible apply Wo_gsF); (exact rfl); ((conv => lhs; simp -implicitDefEqProofs [*]) <;> exact rfl))
        | ((with_reducible apply ex2); (conv => lhs; simp -implicitDefEqProofs [*]) <;> exact rfl)
        | (with_reducible apply W_ss) | (with_reducible apply W_srl) | (with_reducible apply W_rl)
        | ((with_reducible apply W_sc); (conv => lhs; simp -implicitDefEqProofs [*]) <;> exact rfl)
        | ((with_reducible apply W_c); (conv => lhs; simp -implicitDefEqProofs [*]) <;> exact rfl)
        | ((with_reducible apply W_srdl); kernel_rfl) | ((with_reducible apply W_rdl); kernel_rfl)
        | ((with_reducible apply Wd_u); (conv => lhs; simp -implicitDefEqProofs [*]) <;> exact rfl)
        | ((with_reducible apply Wd_n); (conv => lhs; simp -implicitDefEqProofs [*]) <;> exact rfl)
        | ((with_reducible apply Wd_nil); exact rfl)
        | ((with_reducible apply Wd_gsT); (exact rfl); ((conv => lhs; simp -implicitDefEqProofs [*]) <;> exact rfl))
        | ((with_reducible apply Wd_gsF); (exact rfl); ((conv => lhs; simp -implicitDefEqProofs [*]) <;> exact rfl))
        | ((with_reducible apply ex4); (conv => lhs; simp -implicitDefEqProofs [*]) <;> exact rfl)
        | (with_reducible apply W_sblock) | (with_reducible apply W_block) | (with_reducible apply W_sskip) | (with_reducible apply W_skip) | (with_reducible apply W_sret) | (with_reducible apply W_ret) | (with_reducible apply W_sexit) | (with_reducible apply W_exit)
        | (with_reducible apply thenW_n) | (with_reducible apply thenW_r) | (with_reducible apply thenW_e) | (with_reducible apply inB_n) | (with_reducible apply inB_r) | (with_reducible apply inB_e) | ((with_reducible apply inB_o); rotate_left; exact rfl)
        | ((with_reducible apply EndQ_ret); (conv => lhs; simp -implicitDefEqProofs [*]) <;> exact rfl) | ((with_reducible apply EndQ_normal); (conv => lhs; simp -implicitDefEqProofs [*]) <;> exact rfl)
        | (intro h h'; try simp [*, -h] at h'))
      rfl
  · have h11 := d11 f ha
    rw [Bool.not_eq_true] at hs
    rw [hs] at h11
    repeat' (first
      | ((with_reducible apply Wo_u); (conv => lhs; simp -implicitDefEqProofs [*]) <;> exact rfl)
      | ((with_reducible apply Wo_n); (conv => lhs; simp -implicitDefEqProofs [*]) <;> exact rfl)
      | (with_reducible apply Wo_nil)
      | ((with_reducible apply Wo_gt); (exact rfl); ((conv => lhs; simp -implicitDefEqProofs [*]) <;> exact rfl); (conv => lhs; simp -implicitDefEqProofs [*]) <;> exact rfl)
      | ((with_reducible apply Wo_gf); (exact rfl); ((conv => lhs; simp -implicitDefEqProofs [*]) <;> exact rfl); (exact rfl))
      | ((with_reducible apply Wo_gx); (exact rfl); ((conv => lhs; simp -implicitDefEqProofs [*]) <;> exact rfl))
      | ((with_reducible apply Wo_gsT); (exact rfl); ((conv => lhs; simp -implicitDefEqProofs [*]) <;> exact rfl))
      | ((with_reducible apply Wo_gsF); (exact rfl); ((conv => lhs; simp -implicitDefEqProofs [*]) <;> exact rfl))
      | ((with_reducible apply ex2); (conv => lhs; simp -implicitDefEqProofs [*]) <;> exact rfl)
      | (with_reducible apply W_ss) | (with_reducible apply W_srl) | (with_reducible apply W_rl)
      | ((with_reducible apply W_sc); (conv => lhs; simp -implicitDefEqProofs [*]) <;> exact rfl)
      | ((with_reducible apply W_c); (conv => lhs; simp -implicitDefEqProofs [*]) <;> exact rfl)
      | ((with_reducible apply W_srdl); kernel_rfl) | ((with_reducible apply W_rdl); kernel_rfl)
      | ((with_reducible apply Wd_u); (conv => lhs; simp -implicitDefEqProofs [*]) <;> exact rfl)
      | ((with_reducible apply Wd_n); (conv => lhs; simp -implicitDefEqProofs [*]) <;> exact rfl)
      | ((with_reducible apply Wd_nil); exact rfl)
      | ((with_reducible apply Wd_gsT); (exact rfl); ((conv => lhs; simp -implicitDefEqProofs [*]) <;> exact rfl))
      | ((with_reducible apply Wd_gsF); (exact rfl); ((conv => lhs; simp -implicitDefEqProofs [*]) <;> exact rfl))
      | ((with_reducible apply ex4); (conv => lhs; simp -implicitDefEqProofs [*]) <;> exact rfl)
      | (with_reducible apply W_sblock) | (with_reducible apply W_block) | (with_reducible apply W_sskip) | (with_reducible apply W_skip) | (with_reducible apply W_sret) | (with_reducible apply W_ret) | (with_reducible apply W_sexit) | (with_reducible apply W_exit)
      | (with_reducible apply thenW_n) | (with_reducible apply thenW_r) | (with_reducible apply thenW_e) | (with_reducible apply inB_n) | (with_reducible apply inB_r) | (with_reducible apply inB_e) | ((with_reducible apply inB_o); rotate_left; exact rfl)
      | ((with_reducible apply EndQ_ret); (conv => lhs; simp -implicitDefEqProofs [*]) <;> exact rfl) | ((with_reducible apply EndQ_normal); (conv => lhs; simp -implicitDefEqProofs [*]) <;> exact rfl)
      | (intro h h'; try simp [*, -h] at h'))
    rfl
end Go.Proofs.Ytmfhdhiaokejdaa
