/- Law 31: forwarding twice, walked. -/
import Derived.Test.YtmfhdhiaokejdaaK7
import Derived.Test.YtmfhdhiaokejdaaK5
namespace Go.Proofs.Ytmfhdhiaokejdaa
open Go Go.Ab
set_option linter.unusedSimpArgs false
set_option linter.unusedVariables false
theorem accN_part {bs : List Blk} {b : Blk} (h : b ∈ bs) : b.ins.length ≤ accN bs bs.length := by
  obtain ⟨k, hk, rfl⟩ := List.getElem_of_mem h
  have := accN_succ (List.getElem?_eq_getElem hk)
  have := accN_le bs (k + 1)
  omega
theorem small_good {f : Fn} (h : smallB f = true) : ∃ (n : Nat) (bs : List Blk), f = ⟨n, bs⟩ ∧ n ≤ 20 ∧ bs.length ≤ 12 ∧ (∀ b ∈ bs, b.ins.length ≤ 120) ∧ (∀ b ∈ bs, b.okR n) ∧ oneB ⟨n, bs⟩ 64 2000 = true := by
  unfold smallB at h
  simp only [Bool.and_eq_true, decide_eq_true_eq] at h
  obtain ⟨⟨⟨h1, h2⟩, h3⟩, h4⟩ := h
  obtain ⟨r1, r2, r3, r4⟩ := one_okR h4
  have e : ((f.regs.toNat : Nat) : Int) = f.regs := Int.toNat_of_nonneg r1
  refine ⟨f.regs.toNat, f.blocks, Fn.ext' e.symm rfl, by omega, h1, fun b hb => ?_, r4, ?_⟩
  · have := accN_part hb
    unfold sizeN at h3
    omega
  · rw [show (⟨(f.regs.toNat : Nat), f.blocks⟩ : Fn) = f from Fn.ext' e rfl]; exact h4
theorem twice_map {n : Nat} {bs : List Blk} (hok : ∀ b ∈ bs, b.okR n) : (bs.map (fwdBlk n)).map (gB n) = bs.map (gB n) := by
  rw [List.map_map]
  apply List.map_congr_left
  intro b hb
  simp only [Function.comp, gB, fwdBlk_twice (hok b hb)]
theorem row_map {n : Nat} {bs : List Blk} : (bs.map (fwdBlk n)).map Blk.row = bs.map (gB n) := by rw [List.map_map]; rfl
theorem fwd_small {n : Nat} {bs : List Blk} (h1 : n ≤ 20) (h2 : bs.length ≤ 12) (h3 : ∀ b ∈ bs, b.ins.length ≤ 120) : (⟨n, bs.map (fwdBlk n)⟩ : Fn).fits := by
  refine ⟨by simp [big]; omega, fun b hb => ?_⟩
  simp only [List.mem_map] at hb
  obtain ⟨a, ha, rfl⟩ := hb
  refine ⟨?_⟩
  rw [fwdBlk_len]
  have := h3 a ha
  unfold big; omega
set_option maxHeartbeats 4000000 in
theorem d7 (f : Fn) (ha : f.fits) : (lim Try.prog E31 X31).dat 7 [.agg f.row] = some [bv true] := by
  refine fnW Try.func7 rfl rfl bodyOk_7 rfl rtys_7 rfl ?_
  by_cases hs : smallB f = true
  · have h11 := d11 f ha
    obtain ⟨n, bs, rfl, hn, hbs, hins, hok, hone⟩ := small_good hs
    rw [hs] at h11
    have hfs := fwd_small hn hbs hins
    have h13 := d13 n bs (by omega) (by omega) (fun b hb => by have := hins b hb; omega) hok
    have htk : (bs.map (gB n)).take bs.length = bs.map (gB n) := List.take_of_length_le (by simp)
    have htc : (bs.map (gC n)).take bs.length = bs.map (gC n) := List.take_of_length_le (by simp)
    have h13' := d13 n (bs.map (fwdBlk n)) (by omega) (by simp; omega) (fun b hb => by
      simp only [List.mem_map] at hb
      obtain ⟨a, hb, rfl⟩ := hb
      rw [fwdBlk_len]; have := hins a hb; omega) (fun b hb => by
      simp only [List.mem_map] at hb
      obtain ⟨a, hb, rfl⟩ := hb
      exact fwdBlk_ok (hok a hb))
    rw [twice_map hok, row_map] at h13'
    have h16 := d16 ⟨n, bs.map (fwdBlk n)⟩ ⟨n, bs.map (fwdBlk n)⟩ hfs
    simp only [row_map, decide_true] at h16
    have hl : (bs.map (gC n)).length = bs.length := by simp
    clear hins hok hone hfs hs
    repeat' (first
      | ((with_reducible apply Wo_u); (conv => lhs; simp -implicitDefEqProofs [*]) <;> exact rfl)
      | ((with_reducible apply Wo_n); (conv => lhs; simp -implicitDefEqProofs [*]) <;> exact rfl)
      | (with_reducible apply Wo_nil)
      | ((with_reducible apply Wo_gt); (exact rfl); ((conv => lhs; simp -implicitDefEqProofs [*]) <;> exact rfl); (conv => lhs; simp -implicitDefEqProofs [*]) <;> exact rfl)
      | ((with_reducible apply Wo_gf); (exact rfl); ((conv => lhs; simp -implicitDefEqProofs [*]) <;> exact rfl); (exact rfl))
      | ((with_reducible apply Wo_gx); (exact rfl); ((conv => lhs; simp -implicitDefEqProofs [*]) <;> exact rfl))
      | ((with_reducible apply Wo_gsT); (exact rfl); ((conv => lhs; simp -implicitDefEqProofs [*]) <;> exact rfl))
      | ((with_reducible apply Wo_gsF); (exact rfl); ((conv => lhs; simp -implicitDefEqProofs [*]) <;> exact rfl))
      | ((with_reducible apply ex2); (conv => lhs; simp -implicitDefEqProofs [*]) <;> exact rfl)
      | (with_reducible apply W_ss) | (with_reducible apply W_srl) | (with_reducible apply W_rl)
      | ((with_reducible apply W_sc); (conv => lhs; simp -implicitDefEqProofs [*]) <;> exact rfl)
      | ((with_reducible apply W_c); (conv => lhs; simp -implicitDefEqProofs [*]) <;> exact rfl)
      | ((with_reducible apply W_srdl); kernel_rfl) | ((with_reducible apply W_rdl); kernel_rfl)
      | ((with_reducible apply Wd_u); (conv => lhs; simp -implicitDefEqProofs [*]) <;> exact rfl)
      | ((with_reducible apply Wd_n); (conv => lhs; simp -implicitDefEqProofs [*]) <;> exact rfl)
      | ((with_reducible apply Wd_nil); exact rfl)
      | ((with_reducible apply Wd_gsT); (exact rfl); ((conv => lhs; simp -implicitDefEqProofs [*]) <;> exact rfl))
      | ((with_reducible apply Wd_gsF); (exact rfl); ((conv => lhs; simp -implicitDefEqProofs [*]) <;> exact rfl))
      | ((with_reducible apply ex4); (conv => lhs; simp -implicitDefEqProofs [*]) <;> exact rfl)
      | (with_reducible apply W_sblock) | (with_reducible apply W_block) | (with_reducible apply W_sskip) | (with_reducible apply W_skip) | (with_reducible apply W_sret) | (with_reducible apply W_ret) | (with_reducible apply W_sexit) | (with_reducible apply W_exit)
      | (with_reducible apply thenW_n) | (with_reducible apply thenW_r) | (with_reducible apply thenW_e) | (with_reducible apply inB_n) | (with_reducible apply inB_r) | (with_reducible apply inB_e) | ((with_reducible apply inB_o); rotate_left; exact rfl)
      | ((with_reducible apply EndQ_ret); (conv => lhs; simp -implicitDefEqProofs [*]) <;> exact rfl) | ((with_reducible apply EndQ_normal); (conv => lhs; simp -implicitDefEqProofs [*]) <;> exact rfl)
      | (intro h h'; try simp [*, -h] at h'))
    rfl
  · have h11 := d11 f ha
    rw [Bool.not_eq_true] at hs
    rw [hs] at h11
    repeat' (first
      | ((with_reducible apply Wo_u); (conv => lhs; simp -implicitDefEqProofs [*]) <;> exact rfl)
      | ((with_reducible apply Wo_n); (conv => lhs; simp -implicitDefEqProofs [*]) <;> exact rfl)
      | (with_reducible apply Wo_nil)
      | ((with_reducible apply Wo_gt); (exact rfl); ((conv => lhs; simp -implicitDefEqProofs [*]) <;> exact rfl); (conv => lhs; simp -implicitDefEqProofs [*]) <;> exact rfl)
      | ((with_reducible apply Wo_gf); (exact rfl); ((conv => lhs; simp -implicitDefEqProofs [*]) <;> exact rfl); (exact rfl))
      | ((with_reducible apply Wo_gx); (exact rfl); ((conv => lhs; simp -implicitDefEqProofs [*]) <;> exact rfl))
      | ((with_reducible apply Wo_gsT); (exact rfl); ((conv => lhs; simp -implicitDefEqProofs [*]) <;> exact rfl))
      | ((with_reducible apply Wo_gsF); (exact rfl); ((conv => lhs; simp -implicitDefEqProofs [*]) <;> exact rfl))
      | ((with_reducible apply ex2); (conv => lhs; simp -implicitDefEqProofs [*]) <;> exact rfl)
      | (with_reducible apply W_ss) | (with_reducible apply W_srl) | (with_reducible apply W_rl)
      | ((with_reducible apply W_sc); (conv => lhs; simp -implicitDefEqProofs [*]) <;> exact rfl)
      | ((with_reducible apply W_c); (conv => lhs; simp -implicitDefEqProofs [*]) <;> exact rfl)
      | ((with_reducible apply W_srdl); kernel_rfl) | ((with_reducible apply W_rdl); kernel_rfl)
      | ((with_reducible apply Wd_u); (conv => lhs; simp -implicitDefEqProofs [*]) <;> exact rfl)
      | ((with_reducible apply Wd_n); (conv => lhs; simp -implicitDefEqProofs [*]) <;> exact rfl)
      | ((with_reducible apply Wd_nil); exact rfl)
      | ((with_reducible apply Wd_gsT); (exact rfl); ((conv => lhs; simp -implicitDefEqProofs [*]) <;> exact rfl))
      | ((with_reducible apply Wd_gsF); (exact rfl); ((conv => lhs; simp -implicitDefEqProofs [*]) <;> exact rfl))
      | ((with_reducible apply ex4); (conv => lhs; simp -implicitDefEqProofs [*]) <;> exact rfl)
      | (with_reducible apply W_sblock) | (with_reducible apply W_block) | (with_reducible apply W_sskip) | (with_reducible apply W_skip) | (with_reducible apply W_sret) | (with_reducible apply W_ret) | (with_reducible apply W_sexit) | (with_reducible apply W_exit)
      | (with_reducible apply thenW_n) | (with_reducible apply thenW_r) | (with_reducible apply thenW_e) | (with_reducible apply inB_n) | (with_reducible apply inB_r) | (with_reducible apply inB_e) | ((with_reducible apply inB_o); rotate_left; exact rfl)
      | ((with_reducible apply EndQ_ret); (conv => lhs; simp -implicitDefEqProofs [*]) <;> exact rfl) | ((with_reducible apply EndQ_normal); (conv => lhs; simp -implicitDefEqProofs [*]) <;> exact rfl)
      | (intro h h'; try simp [*, -h] at h'))
    rfl
end Go.Proofs.Ytmfhdhiaokejdaa
