/- Instructions, walked. -/
import Derived.Test.YtaeeffddinppeaaGreatDoorQ8
set_option linter.unusedSimpArgs false
set_option linter.unusedVariables false
namespace Go.Proofs.YtaeeffddinppeaaGreatDoor
open Go Go.Ab Go.Ma
attribute [-simp] Prog.bind getCs putCs
attribute [local simp ↓] run_bind
attribute [local simp ↓] runF_bind
attribute [local simp] run_getCsN runF_getCsN facetsC putCs_one run_putCsN
attribute [local simp] take1 bx_len bx_0 bx_1 bx_2 bx_19 bx_20 bx_21 bx_22 bx_23 bx_24 bx_25 bx_reg bs_2 bs_19 bs_20 bs_22 bs_23 bs_24 bs_25 bs_reg bx_regg bg_0 bg_1 bg_2 bg_19 bg_20 bg_21 bg_22 bg_23 bg_24 bg_25
set_option maxHeartbeats 4000000 in
theorem m363_18 {code : List Int} {inp : ByteArray} {pc : Int} {rg : List Int} {M : AV} {rd steps en : Int} {o : Bool} {go no : Nat} (na nb nc : Nat) (hpc0 : 0 ≤ pc) (hpc1 : pc ≤ 4294967296)  (hrl : rg.length = 16) (d : Nat) (hp1 : Hp) (hx : hp1 ⟨0, 13, 0⟩ = .box 1 (bxP code inp pc rg M rd steps en o go no) false)  :
    ∃ hp', (lim Tryz.prog E00 X00).hpc 2 d 363 [.ptr ⟨0, 13, 0⟩ 1 0, .agg [iv 18, iv na, iv nb, iv nc]] hp1 = some (iv 0, hp') ∧ hp' ⟨0, 13, 0⟩ = .box 1 (bxP code inp (nc : Int) rg M rd steps en o go no) false ∧ ∀ y : Nm, y.d = 0 → y ≠ ⟨0, 13, 0⟩ → hp' y = hp1 y := by
  have key : ∃ z hp', (lim Tryz.prog E00 X00).hpc 2 d 363 [.ptr ⟨0, 13, 0⟩ 1 0, .agg [iv 18, iv na, iv nb, iv nc]] hp1 = some (z, hp') ∧ (z = iv 0 ∧ hp' ⟨0, 13, 0⟩ = .box 1 (bxP code inp (nc : Int) rg M rd steps en o go no) false ∧ ∀ y : Nm, y.d = 0 → y ≠ ⟨0, 13, 0⟩ → hp' y = hp1 y) := by
    refine lim_hpcW (R := fun z hp' => z = iv 0 ∧ hp' ⟨0, 13, 0⟩ = .box 1 (bxP code inp (nc : Int) rg M rd steps en o go no) false ∧ ∀ y : Nm, y.d = 0 → y ≠ ⟨0, 13, 0⟩ → hp' y = hp1 y) Tryz.func363 rfl rfl bodyOk_363 rfl rfl ?_
    have hNA := fun (k : Nat) (h : k < 16) => (⟨by omega, by omega⟩ : 3 + k ≤ 25 ∧ 3 + k < 26)
    try have hA := hNA _ ha
    try have hB := hNA _ hb16
    try have hC := hNA _ hc16
    clear hNA
    try have hga' := getV hga
    try have hgb' := getV hgb
    try have hgc' := getV hgc
    obtain ⟨F, hF⟩ := skol (fun d hp (hc : hp ⟨0, 13, 0⟩ = .box 1 (bxP code inp pc rg M rd steps en o go no) false) => m399_18 na nb nc hpc0 hpc1 hrl d hp hc)
    have f1 := fun d hp hc => (hF d hp hc).1
    have f2 := fun d hp hc => (hF d hp hc).2.1
    have f3 := fun d hp hc => (hF d hp hc).2.2
    clear hF
    repeat' (first
      | ((with_reducible first | apply Wo_u | apply Wo_n | apply ex2 | apply W_sc | apply W_c | apply Wd_u | apply Wd_n | apply ex4 | apply EndQ_ret | apply EndQ_normal); (conv => lhs; simp -implicitDefEqProofs [*]) <;> exact rfl)
      | (with_reducible first | apply Wo_nil | apply W_ss | apply W_srl | apply W_rl | apply W_sblock | apply W_block | apply W_sskip | apply W_skip | apply W_sret | apply W_ret | apply W_sexit | apply W_exit | apply thenW_n | apply thenW_r | apply thenW_e | apply inB_n | apply inB_r | apply inB_e)
      | ((with_reducible apply Wo_gt); (exact rfl); ((conv => lhs; simp -implicitDefEqProofs [*]) <;> exact rfl); (conv => lhs; simp -implicitDefEqProofs [*]) <;> exact rfl)
      | ((with_reducible apply Wo_gf); (exact rfl); ((conv => lhs; simp -implicitDefEqProofs [*]) <;> exact rfl); (exact rfl))
      | ((with_reducible apply Wo_gx); (exact rfl); ((conv => lhs; simp -implicitDefEqProofs [*]) <;> exact rfl))
      | ((with_reducible apply Wo_gsT); (exact rfl); ((conv => lhs; simp -implicitDefEqProofs [*]) <;> exact rfl))
      | ((with_reducible apply Wo_gsF); (exact rfl); ((conv => lhs; simp -implicitDefEqProofs [*]) <;> exact rfl))
      | ((with_reducible apply Wd_gsT); (exact rfl); ((conv => lhs; simp -implicitDefEqProofs [*]) <;> exact rfl))
      | ((with_reducible apply Wd_gsF); (exact rfl); ((conv => lhs; simp -implicitDefEqProofs [*]) <;> exact rfl))
      | ((with_reducible first | apply W_srdl | apply W_rdl); kernel_rfl)
      | ((with_reducible apply Wd_nil); kernel_rfl)
      | ((with_reducible apply inB_o); rotate_left; exact rfl)
      | (intro h h'; try simp [*, -h] at h')
      | ((with_reducible apply Wd_gx); (exact rfl); ((conv => lhs; simp -implicitDefEqProofs [*]) <;> exact rfl)))
    all_goals exact ⟨by simp, _, _, rfl, rfl, by simp [*], fun y h0 h1 => (by have e1 : ∀ k i, y ≠ ⟨k + 1, i, 0⟩ := fun k i e => (by subst e; simp at h0); have e2 : ∀ i, y ≠ ⟨1, i, 0⟩ := fun i => e1 0 i; have e3 : ∀ i, y ≠ ⟨2, i, 0⟩ := fun i => e1 1 i; have e4 : ∀ i, y ≠ ⟨3, i, 0⟩ := fun i => e1 2 i; have e5 : ∀ i, y ≠ ⟨4, i, 0⟩ := fun i => e1 3 i; simp [*, f3 _ _ _ y h0 h1])⟩
  obtain ⟨z, hp', h1, rfl, h2⟩ := key
  exact ⟨hp', h1, h2⟩
set_option maxHeartbeats 4000000 in
theorem m363_19 {code : List Int} {inp : ByteArray} {pc : Int} {rg : List Int} {M : AV} {rd steps en : Int} {o : Bool} {go no : Nat} (na nb nc : Nat) (xa : Int) (hpc0 : 0 ≤ pc) (hpc1 : pc ≤ 4294967296)  (hrl : rg.length = 16) (d : Nat) (hp1 : Hp) (hx : hp1 ⟨0, 13, 0⟩ = .box 1 (bxP code inp pc rg M rd steps en o go no) false) (ha : na < 16) (hga : rg[na]? = some xa) :
    ∃ hp', (lim Tryz.prog E00 X00).hpc 2 d 363 [.ptr ⟨0, 13, 0⟩ 1 0, .agg [iv 19, iv na, iv nb, iv nc]] hp1 = some (iv 0, hp') ∧ hp' ⟨0, 13, 0⟩ = .box 1 (bxP code inp (if xa = 0 then (nc : Int) else pc + 1) rg M rd steps en o go no) false ∧ ∀ y : Nm, y.d = 0 → y ≠ ⟨0, 13, 0⟩ → hp' y = hp1 y := by
  have key : ∃ z hp', (lim Tryz.prog E00 X00).hpc 2 d 363 [.ptr ⟨0, 13, 0⟩ 1 0, .agg [iv 19, iv na, iv nb, iv nc]] hp1 = some (z, hp') ∧ (z = iv 0 ∧ hp' ⟨0, 13, 0⟩ = .box 1 (bxP code inp (if xa = 0 then (nc : Int) else pc + 1) rg M rd steps en o go no) false ∧ ∀ y : Nm, y.d = 0 → y ≠ ⟨0, 13, 0⟩ → hp' y = hp1 y) := by
    refine lim_hpcW (R := fun z hp' => z = iv 0 ∧ hp' ⟨0, 13, 0⟩ = .box 1 (bxP code inp (if xa = 0 then (nc : Int) else pc + 1) rg M rd steps en o go no) false ∧ ∀ y : Nm, y.d = 0 → y ≠ ⟨0, 13, 0⟩ → hp' y = hp1 y) Tryz.func363 rfl rfl bodyOk_363 rfl rfl ?_
    have hNA := fun (k : Nat) (h : k < 16) => (⟨by omega, by omega⟩ : 3 + k ≤ 25 ∧ 3 + k < 26)
    try have hA := hNA _ ha
    try have hB := hNA _ hb16
    try have hC := hNA _ hc16
    clear hNA
    try have hga' := getV hga
    try have hgb' := getV hgb
    try have hgc' := getV hgc
    obtain ⟨F, hF⟩ := skol (fun d hp (hc : hp ⟨0, 13, 0⟩ = .box 1 (bxP code inp pc rg M rd steps en o go no) false) => m399_19 na nb nc xa hpc0 hpc1 hrl d hp hc ha hga)
    have f1 := fun d hp hc => (hF d hp hc).1
    have f2 := fun d hp hc => (hF d hp hc).2.1
    have f3 := fun d hp hc => (hF d hp hc).2.2
    clear hF
    repeat' (first
      | ((with_reducible first | apply Wo_u | apply Wo_n | apply ex2 | apply W_sc | apply W_c | apply Wd_u | apply Wd_n | apply ex4 | apply EndQ_ret | apply EndQ_normal); (conv => lhs; simp -implicitDefEqProofs [*]) <;> exact rfl)
      | (with_reducible first | apply Wo_nil | apply W_ss | apply W_srl | apply W_rl | apply W_sblock | apply W_block | apply W_sskip | apply W_skip | apply W_sret | apply W_ret | apply W_sexit | apply W_exit | apply thenW_n | apply thenW_r | apply thenW_e | apply inB_n | apply inB_r | apply inB_e)
      | ((with_reducible apply Wo_gt); (exact rfl); ((conv => lhs; simp -implicitDefEqProofs [*]) <;> exact rfl); (conv => lhs; simp -implicitDefEqProofs [*]) <;> exact rfl)
      | ((with_reducible apply Wo_gf); (exact rfl); ((conv => lhs; simp -implicitDefEqProofs [*]) <;> exact rfl); (exact rfl))
      | ((with_reducible apply Wo_gx); (exact rfl); ((conv => lhs; simp -implicitDefEqProofs [*]) <;> exact rfl))
      | ((with_reducible apply Wo_gsT); (exact rfl); ((conv => lhs; simp -implicitDefEqProofs [*]) <;> exact rfl))
      | ((with_reducible apply Wo_gsF); (exact rfl); ((conv => lhs; simp -implicitDefEqProofs [*]) <;> exact rfl))
      | ((with_reducible apply Wd_gsT); (exact rfl); ((conv => lhs; simp -implicitDefEqProofs [*]) <;> exact rfl))
      | ((with_reducible apply Wd_gsF); (exact rfl); ((conv => lhs; simp -implicitDefEqProofs [*]) <;> exact rfl))
      | ((with_reducible first | apply W_srdl | apply W_rdl); kernel_rfl)
      | ((with_reducible apply Wd_nil); kernel_rfl)
      | ((with_reducible apply inB_o); rotate_left; exact rfl)
      | (intro h h'; try simp [*, -h] at h')
      | ((with_reducible apply Wd_gx); (exact rfl); ((conv => lhs; simp -implicitDefEqProofs [*]) <;> exact rfl)))
    all_goals exact ⟨by simp, _, _, rfl, rfl, by simp [*], fun y h0 h1 => (by have e1 : ∀ k i, y ≠ ⟨k + 1, i, 0⟩ := fun k i e => (by subst e; simp at h0); have e2 : ∀ i, y ≠ ⟨1, i, 0⟩ := fun i => e1 0 i; have e3 : ∀ i, y ≠ ⟨2, i, 0⟩ := fun i => e1 1 i; have e4 : ∀ i, y ≠ ⟨3, i, 0⟩ := fun i => e1 2 i; have e5 : ∀ i, y ≠ ⟨4, i, 0⟩ := fun i => e1 3 i; simp [*, f3 _ _ _ y h0 h1])⟩
  obtain ⟨z, hp', h1, rfl, h2⟩ := key
  exact ⟨hp', h1, h2⟩
set_option maxHeartbeats 4000000 in
theorem m363_20 {code : List Int} {inp : ByteArray} {pc : Int} {rg : List Int} {M : AV} {rd steps en : Int} {o : Bool} {go no : Nat} (na nb nc : Nat) (xa : Int) (hpc0 : 0 ≤ pc) (hpc1 : pc ≤ 4294967296)  (hrl : rg.length = 16) (d : Nat) (hp1 : Hp) (hx : hp1 ⟨0, 13, 0⟩ = .box 1 (bxP code inp pc rg M rd steps en o go no) false) (ha : na < 16) (hga : rg[na]? = some xa) :
    ∃ hp', (lim Tryz.prog E00 X00).hpc 2 d 363 [.ptr ⟨0, 13, 0⟩ 1 0, .agg [iv 20, iv na, iv nb, iv nc]] hp1 = some (iv 0, hp') ∧ hp' ⟨0, 13, 0⟩ = .box 1 (bxP code inp (if xa ≠ 0 then (nc : Int) else pc + 1) rg M rd steps en o go no) false ∧ ∀ y : Nm, y.d = 0 → y ≠ ⟨0, 13, 0⟩ → hp' y = hp1 y := by
  have key : ∃ z hp', (lim Tryz.prog E00 X00).hpc 2 d 363 [.ptr ⟨0, 13, 0⟩ 1 0, .agg [iv 20, iv na, iv nb, iv nc]] hp1 = some (z, hp') ∧ (z = iv 0 ∧ hp' ⟨0, 13, 0⟩ = .box 1 (bxP code inp (if xa ≠ 0 then (nc : Int) else pc + 1) rg M rd steps en o go no) false ∧ ∀ y : Nm, y.d = 0 → y ≠ ⟨0, 13, 0⟩ → hp' y = hp1 y) := by
    refine lim_hpcW (R := fun z hp' => z = iv 0 ∧ hp' ⟨0, 13, 0⟩ = .box 1 (bxP code inp (if xa ≠ 0 then (nc : Int) else pc + 1) rg M rd steps en o go no) false ∧ ∀ y : Nm, y.d = 0 → y ≠ ⟨0, 13, 0⟩ → hp' y = hp1 y) Tryz.func363 rfl rfl bodyOk_363 rfl rfl ?_
    have hNA := fun (k : Nat) (h : k < 16) => (⟨by omega, by omega⟩ : 3 + k ≤ 25 ∧ 3 + k < 26)
    try have hA := hNA _ ha
    try have hB := hNA _ hb16
    try have hC := hNA _ hc16
    clear hNA
    try have hga' := getV hga
    try have hgb' := getV hgb
    try have hgc' := getV hgc
    obtain ⟨F, hF⟩ := skol (fun d hp (hc : hp ⟨0, 13, 0⟩ = .box 1 (bxP code inp pc rg M rd steps en o go no) false) => m399_20 na nb nc xa hpc0 hpc1 hrl d hp hc ha hga)
    have f1 := fun d hp hc => (hF d hp hc).1
    have f2 := fun d hp hc => (hF d hp hc).2.1
    have f3 := fun d hp hc => (hF d hp hc).2.2
    clear hF
    repeat' (first
      | ((with_reducible first | apply Wo_u | apply Wo_n | apply ex2 | apply W_sc | apply W_c | apply Wd_u | apply Wd_n | apply ex4 | apply EndQ_ret | apply EndQ_normal); (conv => lhs; simp -implicitDefEqProofs [*]) <;> exact rfl)
      | (with_reducible first | apply Wo_nil | apply W_ss | apply W_srl | apply W_rl | apply W_sblock | apply W_block | apply W_sskip | apply W_skip | apply W_sret | apply W_ret | apply W_sexit | apply W_exit | apply thenW_n | apply thenW_r | apply thenW_e | apply inB_n | apply inB_r | apply inB_e)
      | ((with_reducible apply Wo_gt); (exact rfl); ((conv => lhs; simp -implicitDefEqProofs [*]) <;> exact rfl); (conv => lhs; simp -implicitDefEqProofs [*]) <;> exact rfl)
      | ((with_reducible apply Wo_gf); (exact rfl); ((conv => lhs; simp -implicitDefEqProofs [*]) <;> exact rfl); (exact rfl))
      | ((with_reducible apply Wo_gx); (exact rfl); ((conv => lhs; simp -implicitDefEqProofs [*]) <;> exact rfl))
      | ((with_reducible apply Wo_gsT); (exact rfl); ((conv => lhs; simp -implicitDefEqProofs [*]) <;> exact rfl))
      | ((with_reducible apply Wo_gsF); (exact rfl); ((conv => lhs; simp -implicitDefEqProofs [*]) <;> exact rfl))
      | ((with_reducible apply Wd_gsT); (exact rfl); ((conv => lhs; simp -implicitDefEqProofs [*]) <;> exact rfl))
      | ((with_reducible apply Wd_gsF); (exact rfl); ((conv => lhs; simp -implicitDefEqProofs [*]) <;> exact rfl))
      | ((with_reducible first | apply W_srdl | apply W_rdl); kernel_rfl)
      | ((with_reducible apply Wd_nil); kernel_rfl)
      | ((with_reducible apply inB_o); rotate_left; exact rfl)
      | (intro h h'; try simp [*, -h] at h')
      | ((with_reducible apply Wd_gx); (exact rfl); ((conv => lhs; simp -implicitDefEqProofs [*]) <;> exact rfl)))
    all_goals exact ⟨by simp, _, _, rfl, rfl, by simp [*], fun y h0 h1 => (by have e1 : ∀ k i, y ≠ ⟨k + 1, i, 0⟩ := fun k i e => (by subst e; simp at h0); have e2 : ∀ i, y ≠ ⟨1, i, 0⟩ := fun i => e1 0 i; have e3 : ∀ i, y ≠ ⟨2, i, 0⟩ := fun i => e1 1 i; have e4 : ∀ i, y ≠ ⟨3, i, 0⟩ := fun i => e1 2 i; have e5 : ∀ i, y ≠ ⟨4, i, 0⟩ := fun i => e1 3 i; simp [*, f3 _ _ _ y h0 h1])⟩
  obtain ⟨z, hp', h1, rfl, h2⟩ := key
  exact ⟨hp', h1, h2⟩
set_option maxHeartbeats 4000000 in
theorem m363_21 {code : List Int} {inp : ByteArray} {pc : Int} {rg : List Int} {M : AV} {rd steps en : Int} {o : Bool} {go no : Nat} (na nb nc : Nat) (hpc0 : 0 ≤ pc) (hpc1 : pc ≤ 4294967296)  (hrl : rg.length = 16) (d : Nat) (hp1 : Hp) (hx : hp1 ⟨0, 13, 0⟩ = .box 1 (bxP code inp pc rg M rd steps en o go no) false) (ha : na < 16) :
    ∃ hp', (lim Tryz.prog E00 X00).hpc 2 d 363 [.ptr ⟨0, 13, 0⟩ 1 0, .agg [iv 21, iv na, iv nb, iv nc]] hp1 = some (iv 0, hp') ∧ hp' ⟨0, 13, 0⟩ = .box 1 (bxP code inp (nc : Int) (rg.set na ((pc + 1) % 4294967296)) M rd steps en o go no) false ∧ ∀ y : Nm, y.d = 0 → y ≠ ⟨0, 13, 0⟩ → hp' y = hp1 y := by
  have key : ∃ z hp', (lim Tryz.prog E00 X00).hpc 2 d 363 [.ptr ⟨0, 13, 0⟩ 1 0, .agg [iv 21, iv na, iv nb, iv nc]] hp1 = some (z, hp') ∧ (z = iv 0 ∧ hp' ⟨0, 13, 0⟩ = .box 1 (bxP code inp (nc : Int) (rg.set na ((pc + 1) % 4294967296)) M rd steps en o go no) false ∧ ∀ y : Nm, y.d = 0 → y ≠ ⟨0, 13, 0⟩ → hp' y = hp1 y) := by
    refine lim_hpcW (R := fun z hp' => z = iv 0 ∧ hp' ⟨0, 13, 0⟩ = .box 1 (bxP code inp (nc : Int) (rg.set na ((pc + 1) % 4294967296)) M rd steps en o go no) false ∧ ∀ y : Nm, y.d = 0 → y ≠ ⟨0, 13, 0⟩ → hp' y = hp1 y) Tryz.func363 rfl rfl bodyOk_363 rfl rfl ?_
    have hNA := fun (k : Nat) (h : k < 16) => (⟨by omega, by omega⟩ : 3 + k ≤ 25 ∧ 3 + k < 26)
    try have hA := hNA _ ha
    try have hB := hNA _ hb16
    try have hC := hNA _ hc16
    clear hNA
    try have hga' := getV hga
    try have hgb' := getV hgb
    try have hgc' := getV hgc
    obtain ⟨F, hF⟩ := skol (fun d hp (hc : hp ⟨0, 13, 0⟩ = .box 1 (bxP code inp pc rg M rd steps en o go no) false) => m399_21 na nb nc hpc0 hpc1 hrl d hp hc ha)
    have f1 := fun d hp hc => (hF d hp hc).1
    have f2 := fun d hp hc => (hF d hp hc).2.1
    have f3 := fun d hp hc => (hF d hp hc).2.2
    clear hF
    repeat' (first
      | ((with_reducible first | apply Wo_u | apply Wo_n | apply ex2 | apply W_sc | apply W_c | apply Wd_u | apply Wd_n | apply ex4 | apply EndQ_ret | apply EndQ_normal); (conv => lhs; simp -implicitDefEqProofs [*]) <;> exact rfl)
      | (with_reducible first | apply Wo_nil | apply W_ss | apply W_srl | apply W_rl | apply W_sblock | apply W_block | apply W_sskip | apply W_skip | apply W_sret | apply W_ret | apply W_sexit | apply W_exit | apply thenW_n | apply thenW_r | apply thenW_e | apply inB_n | apply inB_r | apply inB_e)
      | ((with_reducible apply Wo_gt); (exact rfl); ((conv => lhs; simp -implicitDefEqProofs [*]) <;> exact rfl); (conv => lhs; simp -implicitDefEqProofs [*]) <;> exact rfl)
      | ((with_reducible apply Wo_gf); (exact rfl); ((conv => lhs; simp -implicitDefEqProofs [*]) <;> exact rfl); (exact rfl))
      | ((with_reducible apply Wo_gx); (exact rfl); ((conv => lhs; simp -implicitDefEqProofs [*]) <;> exact rfl))
      | ((with_reducible apply Wo_gsT); (exact rfl); ((conv => lhs; simp -implicitDefEqProofs [*]) <;> exact rfl))
      | ((with_reducible apply Wo_gsF); (exact rfl); ((conv => lhs; simp -implicitDefEqProofs [*]) <;> exact rfl))
      | ((with_reducible apply Wd_gsT); (exact rfl); ((conv => lhs; simp -implicitDefEqProofs [*]) <;> exact rfl))
      | ((with_reducible apply Wd_gsF); (exact rfl); ((conv => lhs; simp -implicitDefEqProofs [*]) <;> exact rfl))
      | ((with_reducible first | apply W_srdl | apply W_rdl); kernel_rfl)
      | ((with_reducible apply Wd_nil); kernel_rfl)
      | ((with_reducible apply inB_o); rotate_left; exact rfl)
      | (intro h h'; try simp [*, -h] at h')
      | ((with_reducible apply Wd_gx); (exact rfl); ((conv => lhs; simp -implicitDefEqProofs [*]) <;> exact rfl)))
    all_goals exact ⟨by simp, _, _, rfl, rfl, by simp [*], fun y h0 h1 => (by have e1 : ∀ k i, y ≠ ⟨k + 1, i, 0⟩ := fun k i e => (by subst e; simp at h0); have e2 : ∀ i, y ≠ ⟨1, i, 0⟩ := fun i => e1 0 i; have e3 : ∀ i, y ≠ ⟨2, i, 0⟩ := fun i => e1 1 i; have e4 : ∀ i, y ≠ ⟨3, i, 0⟩ := fun i => e1 2 i; have e5 : ∀ i, y ≠ ⟨4, i, 0⟩ := fun i => e1 3 i; simp [*, f3 _ _ _ y h0 h1])⟩
  obtain ⟨z, hp', h1, rfl, h2⟩ := key
  exact ⟨hp', h1, h2⟩
set_option maxHeartbeats 4000000 in
theorem m363_22 {code : List Int} {inp : ByteArray} {pc : Int} {rg : List Int} {M : AV} {rd steps en : Int} {o : Bool} {go no : Nat} (na nb nc : Nat) (xa : Int) (hxa : Ma.U xa) (hpc0 : 0 ≤ pc) (hpc1 : pc ≤ 4294967296)  (hrl : rg.length = 16) (d : Nat) (hp1 : Hp) (hx : hp1 ⟨0, 13, 0⟩ = .box 1 (bxP code inp pc rg M rd steps en o go no) false) (ha : na < 16) (hga : rg[na]? = some xa) :
    ∃ hp', (lim Tryz.prog E00 X00).hpc 2 d 363 [.ptr ⟨0, 13, 0⟩ 1 0, .agg [iv 22, iv na, iv nb, iv nc]] hp1 = some (iv 0, hp') ∧ hp' ⟨0, 13, 0⟩ = .box 1 (bxP code inp xa rg M rd steps en o go no) false ∧ ∀ y : Nm, y.d = 0 → y ≠ ⟨0, 13, 0⟩ → hp' y = hp1 y := by
  have key : ∃ z hp', (lim Tryz.prog E00 X00).hpc 2 d 363 [.ptr ⟨0, 13, 0⟩ 1 0, .agg [iv 22, iv na, iv nb, iv nc]] hp1 = some (z, hp') ∧ (z = iv 0 ∧ hp' ⟨0, 13, 0⟩ = .box 1 (bxP code inp xa rg M rd steps en o go no) false ∧ ∀ y : Nm, y.d = 0 → y ≠ ⟨0, 13, 0⟩ → hp' y = hp1 y) := by
    refine lim_hpcW (R := fun z hp' => z = iv 0 ∧ hp' ⟨0, 13, 0⟩ = .box 1 (bxP code inp xa rg M rd steps en o go no) false ∧ ∀ y : Nm, y.d = 0 → y ≠ ⟨0, 13, 0⟩ → hp' y = hp1 y) Tryz.func363 rfl rfl bodyOk_363 rfl rfl ?_
    have hNA := fun (k : Nat) (h : k < 16) => (⟨by omega, by omega⟩ : 3 + k ≤ 25 ∧ 3 + k < 26)
    try have hA := hNA _ ha
    try have hB := hNA _ hb16
    try have hC := hNA _ hc16
    clear hNA
    try have hga' := getV hga
    try have hgb' := getV hgb
    try have hgc' := getV hgc
    obtain ⟨F, hF⟩ := skol (fun d hp (hc : hp ⟨0, 13, 0⟩ = .box 1 (bxP code inp pc rg M rd steps en o go no) false) => m399_22 na nb nc xa hxa hpc0 hpc1 hrl d hp hc ha hga)
    have f1 := fun d hp hc => (hF d hp hc).1
    have f2 := fun d hp hc => (hF d hp hc).2.1
    have f3 := fun d hp hc => (hF d hp hc).2.2
    clear hF
    repeat' (first
      | ((with_reducible first | apply Wo_u | apply Wo_n | apply ex2 | apply W_sc | apply W_c | apply Wd_u | apply Wd_n | apply ex4 | apply EndQ_ret | apply EndQ_normal); (conv => lhs; simp -implicitDefEqProofs [*]) <;> exact rfl)
      | (with_reducible first | apply Wo_nil | apply W_ss | apply W_srl | apply W_rl | apply W_sblock | apply W_block | apply W_sskip | apply W_skip | apply W_sret | apply W_ret | apply W_sexit | apply W_exit | apply thenW_n | apply thenW_r | apply thenW_e | apply inB_n | apply inB_r | apply inB_e)
      | ((with_reducible apply Wo_gt); (exact rfl); ((conv => lhs; simp -implicitDefEqProofs [*]) <;> exact rfl); (conv => lhs; simp -implicitDefEqProofs [*]) <;> exact rfl)
      | ((with_reducible apply Wo_gf); (exact rfl); ((conv => lhs; simp -implicitDefEqProofs [*]) <;> exact rfl); (exact rfl))
      | ((with_reducible apply Wo_gx); (exact rfl); ((conv => lhs; simp -implicitDefEqProofs [*]) <;> exact rfl))
      | ((with_reducible apply Wo_gsT); (exact rfl); ((conv => lhs; simp -implicitDefEqProofs [*]) <;> exact rfl))
      | ((with_reducible apply Wo_gsF); (exact rfl); ((conv => lhs; simp -implicitDefEqProofs [*]) <;> exact rfl))
      | ((with_reducible apply Wd_gsT); (exact rfl); ((conv => lhs; simp -implicitDefEqProofs [*]) <;> exact rfl))
      | ((with_reducible apply Wd_gsF); (exact rfl); ((conv => lhs; simp -implicitDefEqProofs [*]) <;> exact rfl))
      | ((with_reducible first | apply W_srdl | apply W_rdl); kernel_rfl)
      | ((with_reducible apply Wd_nil); kernel_rfl)
      | ((with_reducible apply inB_o); rotate_left; exact rfl)
      | (intro h h'; try simp [*, -h] at h')
      | ((with_reducible apply Wd_gx); (exact rfl); ((conv => lhs; simp -implicitDefEqProofs [*]) <;> exact rfl)))
    all_goals exact ⟨by simp, _, _, rfl, rfl, by simp [*], fun y h0 h1 => (by have e1 : ∀ k i, y ≠ ⟨k + 1, i, 0⟩ := fun k i e => (by subst e; simp at h0); have e2 : ∀ i, y ≠ ⟨1, i, 0⟩ := fun i => e1 0 i; have e3 : ∀ i, y ≠ ⟨2, i, 0⟩ := fun i => e1 1 i; have e4 : ∀ i, y ≠ ⟨3, i, 0⟩ := fun i => e1 2 i; have e5 : ∀ i, y ≠ ⟨4, i, 0⟩ := fun i => e1 3 i; simp [*, f3 _ _ _ y h0 h1])⟩
  obtain ⟨z, hp', h1, rfl, h2⟩ := key
  exact ⟨hp', h1, h2⟩
end Go.Proofs.YtaeeffddinppeaaGreatDoor
