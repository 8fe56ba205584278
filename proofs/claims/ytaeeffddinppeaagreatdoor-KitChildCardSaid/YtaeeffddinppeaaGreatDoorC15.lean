/- A part of the proof: Mm. -/
import Derived.Test.YtaeeffddinppeaaGreatDoorC14
set_option linter.unusedSimpArgs false
set_option linter.unusedVariables false
namespace Go.Proofs.YtaeeffddinppeaaGreatDoor
open Go Go.Ab Go.Ma
attribute [-simp] Prog.bind getCs putCs
attribute [local simp ↓] run_bind
attribute [local simp ↓] runF_bind
attribute [local simp] run_getCsN runF_getCsN facetsC putCs_one run_putCsN
attribute [local simp] take1 bx_len bx_0 bx_1 bx_2 bx_19 bx_20 bx_21 bx_22 bx_23 bx_24 bx_25 bx_reg bs_2 bs_19 bs_20 bs_22 bs_23 bs_24 bs_25 bs_reg bx_regg bg_0 bg_1 bg_2 bg_19 bg_20 bg_21 bg_22 bg_23 bg_24 bg_25
set_option maxHeartbeats 8000000 in
theorem m287_d {code : List Int} {inp : ByteArray} {s : PS} {go gm : Nat} (w : Int) (hw : code[s.pc.toNat]? = some w) (hwU : Ma.U w) (hr : rightI (insW w) = true) (hs : Ma.Ok inp.size s) (hen : s.en = 0) (hml : s.mem.length ≤ 1048576) (hil : inp.size ≤ 1048576) (hcl : code.length ≤ 1048576) (hst1 : s.steps < 9223372036854775806)
    {hp1 : Hp} (M : Mst code inp s go gm hp1) (hcU : ∀ x ∈ code, Ma.U x) (hin : ∀ k b, inpF inp k = some b → k < inp.size ∧ 0 ≤ b ∧ b < 256) (d : Nat) :
    ∃ hp' go' gm', (lim Tryz.prog E00 X00).hpc 1 d 287 [.ptr ⟨0, 13, 0⟩ 1 0] hp1 = some (bv true, hp') ∧ Mst code inp (doP code (inpF inp) { s with steps := s.steps + 1 } (insW w)) go' gm' hp' ∧ ∀ y : Nm, y.d = 0 → y.i ≠ 13 → hp' y = hp1 y := by
  have key : ∃ z hp', (lim Tryz.prog E00 X00).hpc 1 d 287 [.ptr ⟨0, 13, 0⟩ 1 0] hp1 = some (z, hp') ∧ (z = bv true ∧ ∃ go' gm', Mst code inp (doP code (inpF inp) { s with steps := s.steps + 1 } (insW w)) go' gm' hp' ∧ ∀ y : Nm, y.d = 0 → y.i ≠ 13 → hp' y = hp1 y) := by
    refine lim_hpcW (R := fun z hp' => z = bv true ∧ ∃ go' gm', Mst code inp (doP code (inpF inp) { s with steps := s.steps + 1 } (insW w)) go' gm' hp' ∧ ∀ y : Nm, y.d = 0 → y.i ≠ 13 → hp' y = hp1 y) Tryz.func287 rfl rfl bodyOk_287 rfl rfl ?_
    have hs1 : Ma.Ok inp.size { s with steps := s.steps + 1 } := { pc0 := hs.pc0, pc1 := hs.pc1, rl := hs.rl, ru := hs.ru, mu := hs.mu, rd := hs.rd, ou := hs.ou, ol := hs.ol, en0 := hs.en0, en1 := hs.en1 }
    obtain ⟨pn, hpn⟩ : ∃ pn : Nat, s.pc = pn := ⟨s.pc.toNat, (Int.toNat_of_nonneg hs.pc0).symm⟩
    have hx := M.bx
    rw [hpn, Int.toNat_natCast] at hw
    rw [hpn, hen] at hx
    have hrl := hs.rl
    have q0 : ¬ (pn : Int) < 0 := by omega
    have q2 : pn < code.length := (List.getElem?_eq_some_iff.1 hw).1
    have q1 : ¬ (code.length : Int) ≤ pn := by omega
    have q3 := getV hw
    have q4 := wrapN (k := s.steps) (by omega)
    have h362 := m362 w hwU
    have hins : insW w = ⟨((w / 16777216).toNat : Int), ((w / 1048576 % 16).toNat : Int), ((w / 65536 % 16).toNat : Int), ((w % 65536).toNat : Int)⟩ := by
      unfold insW; unfold Ma.U at hwU
      congr 1 <;> omega
    unfold decP at h362
    rw [hr] at h362
    simp only [if_true] at h362
    have hok : Ma.Ok inp.size (doP code (inpF inp) { s with steps := s.steps + 1 } (insW w)) := doP_ok hs1 hcU hin hr (by show s.pc + 1 ≤ _; omega)
    rw [hins] at h362 hr hok ⊢
    simp only at h362
    generalize (w / 16777216).toNat = op at *
    generalize (w / 1048576 % 16).toNat = na at *
    generalize (w / 65536 % 16).toNat = nb at *
    generalize (w % 65536).toNat = nc at *
    clear hins
    have q5 : ∀ h, (rowW code)[pn]'h = [uv w] := fun h => by rw [List.getElem_map, q3]
    have hMo := M.out
    repeat' (first | ((with_reducible first | apply Wo_u | apply Wo_n | apply ex2 | apply W_sc | apply W_c | apply Wd_u | apply Wd_n | apply ex4 | apply EndQ_ret | apply EndQ_normal); (conv => lhs; simp -implicitDefEqProofs [*]) <;> exact rfl) | (with_reducible first | apply Wo_nil | apply W_ss | apply W_srl | apply W_rl | apply W_sblock | apply W_block | apply W_sskip | apply W_skip | apply W_sret | apply W_ret | apply W_sexit | apply W_exit | apply thenW_n | apply thenW_r | apply thenW_e | apply inB_n | apply inB_r | apply inB_e) | ((with_reducible apply Wo_gt); (exact rfl); ((conv => lhs; simp -implicitDefEqProofs [*]) <;> exact rfl); (conv => lhs; simp -implicitDefEqProofs [*]) <;> exact rfl) | ((with_reducible apply Wo_gf); (exact rfl); ((conv => lhs; simp -implicitDefEqProofs [*]) <;> exact rfl); (exact rfl)) | ((with_reducible apply Wo_gx); (exact rfl); ((conv => lhs; simp -implicitDefEqProofs [*]) <;> exact rfl)) | ((with_reducible apply Wo_gsT); (exact rfl); ((conv => lhs; simp -implicitDefEqProofs [*]) <;> exact rfl)) | ((with_reducible apply Wo_gsF); (exact rfl); ((conv => lhs; simp -implicitDefEqProofs [*]) <;> exact rfl)) | ((with_reducible apply Wd_gsT); (exact rfl); ((conv => lhs; simp -implicitDefEqProofs [*]) <;> exact rfl)) | ((with_reducible apply Wd_gsF); (exact rfl); ((conv => lhs; simp -implicitDefEqProofs [*]) <;> exact rfl)) | ((with_reducible first | apply W_srdl | apply W_rdl); kernel_rfl) | ((with_reducible apply Wd_nil); kernel_rfl) | ((with_reducible apply inB_o); rotate_left; exact rfl) | (intro h h'; try simp [*, -h] at h') | ((with_reducible apply Wd_gx); (exact rfl); ((conv => lhs; simp -implicitDefEqProofs [*]) <;> exact rfl)))
    all_goals
      refine Wo_do op na nb nc hs1 hen hr (by show s.pc ≤ _; omega) hml hil (code := code) (go := go) (gm := gm) ⟨by simp [*], by simp [*], fun h => by have := M.mem h; simp [*]⟩ (by simp) (by simp) ?_
      intro hp2 go2 gm2 M2 h32
      have hx2 := M2.bx
      have hrl2 := hok.rl
      have ho2 := M2.out
      have hm2 := M2.mem
      simp only at hx2 ho2 hm2
      clear hs1 hok hcU hin h362 M2 hx
      generalize doP code (inpF inp) { s with steps := s.steps + 1 } ⟨(op : Int), na, nb, nc⟩ = t at *
      have hb := bne_dec t.en 0
      by_cases he : t.en = 0
      all_goals simp only [he, ne_eq, not_true, not_false_iff, decide_true, decide_false] at hb
      all_goals
        repeat' (first | ((with_reducible first | apply Wo_u | apply Wo_n | apply ex2 | apply W_sc | apply W_c | apply Wd_u | apply Wd_n | apply ex4 | apply EndQ_ret | apply EndQ_normal); (conv => lhs; simp -implicitDefEqProofs [*]) <;> exact rfl) | (with_reducible first | apply Wo_nil | apply W_ss | apply W_srl | apply W_rl | apply W_sblock | apply W_block | apply W_sskip | apply W_skip | apply W_sret | apply W_ret | apply W_sexit | apply W_exit | apply thenW_n | apply thenW_r | apply thenW_e | apply inB_n | apply inB_r | apply inB_e) | ((with_reducible apply Wo_gt); (exact rfl); ((conv => lhs; simp -implicitDefEqProofs [*]) <;> exact rfl); (conv => lhs; simp -implicitDefEqProofs [*]) <;> exact rfl) | ((with_reducible apply Wo_gf); (exact rfl); ((conv => lhs; simp -implicitDefEqProofs [*]) <;> exact rfl); (exact rfl)) | ((with_reducible apply Wo_gx); (exact rfl); ((conv => lhs; simp -implicitDefEqProofs [*]) <;> exact rfl)) | ((with_reducible apply Wo_gsT); (exact rfl); ((conv => lhs; simp -implicitDefEqProofs [*]) <;> exact rfl)) | ((with_reducible apply Wo_gsF); (exact rfl); ((conv => lhs; simp -implicitDefEqProofs [*]) <;> exact rfl)) | ((with_reducible apply Wd_gsT); (exact rfl); ((conv => lhs; simp -implicitDefEqProofs [*]) <;> exact rfl)) | ((with_reducible apply Wd_gsF); (exact rfl); ((conv => lhs; simp -implicitDefEqProofs [*]) <;> exact rfl)) | ((with_reducible first | apply W_srdl | apply W_rdl); kernel_rfl) | ((with_reducible apply Wd_nil); kernel_rfl) | ((with_reducible apply inB_o); rotate_left; exact rfl) | (intro h h'; try simp [*, -h] at h') | ((with_reducible apply Wd_gx); (exact rfl); ((conv => lhs; simp -implicitDefEqProofs [*]) <;> exact rfl)))
      · exact ⟨by simp, _, _, rfl, rfl, go2, gm2, ⟨by simp [*], by simp [*], fun h => by have := hm2 h; simp [*]⟩, fun y h0 h1 => by have h3 := h32 y h0 h1; exact (by have e1 : ∀ k i, y ≠ ⟨k + 1, i, 0⟩ := fun k i e => (by subst e; simp at h0); have e2 : ∀ i, y ≠ ⟨1, i, 0⟩ := fun i => e1 0 i; have e3 : ∀ i, y ≠ ⟨2, i, 0⟩ := fun i => e1 1 i; have e4 : ∀ i, y ≠ ⟨3, i, 0⟩ := fun i => e1 2 i; have e5 : ∀ i, y ≠ ⟨4, i, 0⟩ := fun i => e1 3 i; (have e6 : y ≠ ⟨0, 13, 0⟩ := ne13 h1 rfl; simp [*]))⟩
      · exact ⟨by simp, _, _, rfl, rfl, go2, gm2, ⟨by simp [*], by simp [*], fun h => by have := hm2 h; simp [*]⟩, fun y h0 h1 => by have h3 := h32 y h0 h1; exact (by have e1 : ∀ k i, y ≠ ⟨k + 1, i, 0⟩ := fun k i e => (by subst e; simp at h0); have e2 : ∀ i, y ≠ ⟨1, i, 0⟩ := fun i => e1 0 i; have e3 : ∀ i, y ≠ ⟨2, i, 0⟩ := fun i => e1 1 i; have e4 : ∀ i, y ≠ ⟨3, i, 0⟩ := fun i => e1 2 i; have e5 : ∀ i, y ≠ ⟨4, i, 0⟩ := fun i => e1 3 i; (have e6 : y ≠ ⟨0, 13, 0⟩ := ne13 h1 rfl; simp [*]))⟩
  obtain ⟨z, hp', h1, rfl, go', gm', h2⟩ := key
  exact ⟨hp', go', gm', h1, h2⟩
end Go.Proofs.YtaeeffddinppeaaGreatDoor
