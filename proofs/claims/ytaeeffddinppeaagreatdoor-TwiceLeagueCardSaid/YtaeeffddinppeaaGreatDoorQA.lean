/- Instructions, walked. -/
import Derived.Test.YtaeeffddinppeaaGreatDoorQ9
set_option linter.unusedSimpArgs false
set_option linter.unusedVariables false
namespace Go.Proofs.YtaeeffddinppeaaGreatDoor
open Go Go.Ab Go.Ma
attribute [-simp] Prog.bind getCs putCs
attribute [local simp ↓] run_bind
attribute [local simp ↓] runF_bind
attribute [local simp] run_getCsN runF_getCsN facetsC putCs_one run_putCsN
attribute [local simp] take1 bx_len bx_0 bx_1 bx_2 bx_19 bx_20 bx_21 bx_22 bx_23 bx_24 bx_25 bx_reg bs_2 bs_19 bs_20 bs_22 bs_23 bs_24 bs_25 bs_reg bx_regg bg_0 bg_1 bg_2 bg_19 bg_20 bg_21 bg_22 bg_23 bg_24 bg_25
set_option maxHeartbeats 4000000 in
theorem m363_27i {code : List Int} {inp : ByteArray} {pc : Int} {rg : List Int} {M : AV} {rd steps en : Int} {o : Bool} {go no : Nat} (na nb nc at_ : Nat) (xb : Int) (hnc : nc ≤ 65535) (hat : (xb + nc) % 4294967296 = at_) (x : Int) (hcx : code[at_]? = some x) (hpc0 : 0 ≤ pc) (hpc1 : pc ≤ 4294967296)  (hrl : rg.length = 16) (d : Nat) (hp1 : Hp) (hx : hp1 ⟨0, 13, 0⟩ = .box 1 (bxP code inp pc rg M rd steps en o go no) false) (ha : na < 16) (hb16 : nb < 16) (hgb : rg[nb]? = some xb) :
    ∃ hp', (lim Tryz.prog E00 X00).hpc 2 d 363 [.ptr ⟨0, 13, 0⟩ 1 0, .agg [iv 27, iv na, iv nb, iv nc]] hp1 = some (iv 0, hp') ∧ hp' ⟨0, 13, 0⟩ = .box 1 (bxP code inp (pc + 1) (rg.set na x) M rd steps en o go no) false ∧ ∀ y : Nm, y.d = 0 → y ≠ ⟨0, 13, 0⟩ → hp' y = hp1 y := by
  have key : ∃ z hp', (lim Tryz.prog E00 X00).hpc 2 d 363 [.ptr ⟨0, 13, 0⟩ 1 0, .agg [iv 27, iv na, iv nb, iv nc]] hp1 = some (z, hp') ∧ (z = iv 0 ∧ hp' ⟨0, 13, 0⟩ = .box 1 (bxP code inp (pc + 1) (rg.set na x) M rd steps en o go no) false ∧ ∀ y : Nm, y.d = 0 → y ≠ ⟨0, 13, 0⟩ → hp' y = hp1 y) := by
    refine lim_hpcW (R := fun z hp' => z = iv 0 ∧ hp' ⟨0, 13, 0⟩ = .box 1 (bxP code inp (pc + 1) (rg.set na x) M rd steps en o go no) false ∧ ∀ y : Nm, y.d = 0 → y ≠ ⟨0, 13, 0⟩ → hp' y = hp1 y) Tryz.func363 rfl rfl bodyOk_363 rfl rfl ?_
    have hNA := fun (k : Nat) (h : k < 16) => (⟨by omega, by omega⟩ : 3 + k ≤ 25 ∧ 3 + k < 26)
    try have hA := hNA _ ha
    try have hB := hNA _ hb16
    try have hC := hNA _ hc16
    clear hNA
    try have hga' := getV hga
    try have hgb' := getV hgb
    try have hgc' := getV hgc
    have hw : IntKind.i64.wrap (pc + 1) = pc + 1 := wrap64 (by omega) (by omega)
    obtain ⟨F, hF⟩ := skol (C := fun hp => hp ⟨0, 13, 0⟩ = .box 1 (bxP code inp pc rg M rd steps en o go no) false) (fun d hp (hc : hp ⟨0, 13, 0⟩ = .box 1 (bxP code inp pc rg M rd steps en o go no) false) => m400_27i na nb nc at_ xb hnc hat x hcx hrl d hp hc ha hb16 hgb)
    have f1 := fun d hp hc => (hF d hp hc).1
    have f2 := fun d hp hc => (hF d hp hc).2.1
    have f3 := fun d hp hc => (hF d hp hc).2.2
    clear hF
    repeat' (first
      | ((with_reducible first | apply Wo_u | apply Wo_n | apply ex2 | apply W_sc | apply W_c | apply Wd_u | apply Wd_n | apply ex4 | apply EndQ_ret | apply EndQ_normal); (conv => lhs; simp -implicitDefEqProofs [*]) <;> exact rfl)
      | (with_reducible first | apply Wo_nil | apply W_ss | apply W_srl | apply W_rl | apply W_sblock | apply W_block | apply W_sskip | apply W_skip | apply W_sret | apply W_ret | apply W_sexit | apply W_exit | apply thenW_n | apply thenW_r | apply thenW_e | apply inB_n | apply inB_r | apply inB_e)
      | ((with_reducible apply Wo_gt); (exact rfl); ((conv => lhs; simp -implicitDefEqProofs [*]) <;> exact rfl); (conv => lhs; simp -implicitDefEqProofs [*]) <;> exact rfl)
      | ((with_reducible apply Wo_gf); (exact rfl); ((conv => lhs; simp -implicitDefEqProofs [*]) <;> exact rfl); (exact rfl))
      | ((with_reducible apply Wo_gx); (exact rfl); ((conv => lhs; simp -implicitDefEqProofs [*]) <;> exact rfl))
      | ((with_reducible apply Wo_gsT); (exact rfl); ((conv => lhs; simp -implicitDefEqProofs [*]) <;> exact rfl))
      | ((with_reducible apply Wo_gsF); (exact rfl); ((conv => lhs; simp -implicitDefEqProofs [*]) <;> exact rfl))
      | ((with_reducible apply Wd_gsT); (exact rfl); ((conv => lhs; simp -implicitDefEqProofs [*]) <;> exact rfl))
      | ((with_reducible apply Wd_gsF); (exact rfl); ((conv => lhs; simp -implicitDefEqProofs [*]) <;> exact rfl))
      | ((with_reducible first | apply W_srdl | apply W_rdl); kernel_rfl)
      | ((with_reducible apply Wd_nil); kernel_rfl)
      | ((with_reducible apply inB_o); rotate_left; exact rfl)
      | (intro h h'; try simp [*, -h] at h')
      | ((with_reducible apply Wd_gx); (exact rfl); ((conv => lhs; simp -implicitDefEqProofs [*]) <;> exact rfl)))
    all_goals exact ⟨by simp, _, _, rfl, rfl, by simp [*], fun y h0 h1 => (by have e1 : ∀ k i, y ≠ ⟨k + 1, i, 0⟩ := fun k i e => (by subst e; simp at h0); have e2 : ∀ i, y ≠ ⟨1, i, 0⟩ := fun i => e1 0 i; have e3 : ∀ i, y ≠ ⟨2, i, 0⟩ := fun i => e1 1 i; have e4 : ∀ i, y ≠ ⟨3, i, 0⟩ := fun i => e1 2 i; have e5 : ∀ i, y ≠ ⟨4, i, 0⟩ := fun i => e1 3 i; simp [*, f3 _ _ _ y h0 h1])⟩
  obtain ⟨z, hp', h1, rfl, h2⟩ := key
  exact ⟨hp', h1, h2⟩
set_option maxHeartbeats 4000000 in
theorem m363_27o {code : List Int} {inp : ByteArray} {pc : Int} {rg : List Int} {M : AV} {rd steps en : Int} {o : Bool} {go no : Nat} (na nb nc at_ : Nat) (xb : Int) (hnc : nc ≤ 65535) (hat : (xb + nc) % 4294967296 = at_) (hcx : code.length ≤ at_) (hpc0 : 0 ≤ pc) (hpc1 : pc ≤ 4294967296)  (hrl : rg.length = 16) (d : Nat) (hp1 : Hp) (hx : hp1 ⟨0, 13, 0⟩ = .box 1 (bxP code inp pc rg M rd steps en o go no) false) (ha : na < 16) (hb16 : nb < 16) (hgb : rg[nb]? = some xb) :
    ∃ hp', (lim Tryz.prog E00 X00).hpc 2 d 363 [.ptr ⟨0, 13, 0⟩ 1 0, .agg [iv 27, iv na, iv nb, iv nc]] hp1 = some (iv 8, hp') ∧ hp' ⟨0, 13, 0⟩ = .box 1 (bxP code inp pc rg M rd steps en o go no) false ∧ ∀ y : Nm, y.d = 0 → y ≠ ⟨0, 13, 0⟩ → hp' y = hp1 y := by
  have key : ∃ z hp', (lim Tryz.prog E00 X00).hpc 2 d 363 [.ptr ⟨0, 13, 0⟩ 1 0, .agg [iv 27, iv na, iv nb, iv nc]] hp1 = some (z, hp') ∧ (z = iv 8 ∧ hp' ⟨0, 13, 0⟩ = .box 1 (bxP code inp pc rg M rd steps en o go no) false ∧ ∀ y : Nm, y.d = 0 → y ≠ ⟨0, 13, 0⟩ → hp' y = hp1 y) := by
    refine lim_hpcW (R := fun z hp' => z = iv 8 ∧ hp' ⟨0, 13, 0⟩ = .box 1 (bxP code inp pc rg M rd steps en o go no) false ∧ ∀ y : Nm, y.d = 0 → y ≠ ⟨0, 13, 0⟩ → hp' y = hp1 y) Tryz.func363 rfl rfl bodyOk_363 rfl rfl ?_
    have hNA := fun (k : Nat) (h : k < 16) => (⟨by omega, by omega⟩ : 3 + k ≤ 25 ∧ 3 + k < 26)
    try have hA := hNA _ ha
    try have hB := hNA _ hb16
    try have hC := hNA _ hc16
    clear hNA
    try have hga' := getV hga
    try have hgb' := getV hgb
    try have hgc' := getV hgc
    have hw : IntKind.i64.wrap (pc + 1) = pc + 1 := wrap64 (by omega) (by omega)
    obtain ⟨F, hF⟩ := skol (C := fun hp => hp ⟨0, 13, 0⟩ = .box 1 (bxP code inp pc rg M rd steps en o go no) false) (fun d hp (hc : hp ⟨0, 13, 0⟩ = .box 1 (bxP code inp pc rg M rd steps en o go no) false) => m400_27o na nb nc at_ xb hnc hat hcx hrl d hp hc ha hb16 hgb)
    have f1 := fun d hp hc => (hF d hp hc).1
    have f2 := fun d hp hc => (hF d hp hc).2.1
    have f3 := fun d hp hc => (hF d hp hc).2.2
    clear hF
    repeat' (first
      | ((with_reducible first | apply Wo_u | apply Wo_n | apply ex2 | apply W_sc | apply W_c | apply Wd_u | apply Wd_n | apply ex4 | apply EndQ_ret | apply EndQ_normal); (conv => lhs; simp -implicitDefEqProofs [*]) <;> exact rfl)
      | (with_reducible first | apply Wo_nil | apply W_ss | apply W_srl | apply W_rl | apply W_sblock | apply W_block | apply W_sskip | apply W_skip | apply W_sret | apply W_ret | apply W_sexit | apply W_exit | apply thenW_n | apply thenW_r | apply thenW_e | apply inB_n | apply inB_r | apply inB_e)
      | ((with_reducible apply Wo_gt); (exact rfl); ((conv => lhs; simp -implicitDefEqProofs [*]) <;> exact rfl); (conv => lhs; simp -implicitDefEqProofs [*]) <;> exact rfl)
      | ((with_reducible apply Wo_gf); (exact rfl); ((conv => lhs; simp -implicitDefEqProofs [*]) <;> exact rfl); (exact rfl))
      | ((with_reducible apply Wo_gx); (exact rfl); ((conv => lhs; simp -implicitDefEqProofs [*]) <;> exact rfl))
      | ((with_reducible apply Wo_gsT); (exact rfl); ((conv => lhs; simp -implicitDefEqProofs [*]) <;> exact rfl))
      | ((with_reducible apply Wo_gsF); (exact rfl); ((conv => lhs; simp -implicitDefEqProofs [*]) <;> exact rfl))
      | ((with_reducible apply Wd_gsT); (exact rfl); ((conv => lhs; simp -implicitDefEqProofs [*]) <;> exact rfl))
      | ((with_reducible apply Wd_gsF); (exact rfl); ((conv => lhs; simp -implicitDefEqProofs [*]) <;> exact rfl))
      | ((with_reducible first | apply W_srdl | apply W_rdl); kernel_rfl)
      | ((with_reducible apply Wd_nil); kernel_rfl)
      | ((with_reducible apply inB_o); rotate_left; exact rfl)
      | (intro h h'; try simp [*, -h] at h')
      | ((with_reducible apply Wd_gx); (exact rfl); ((conv => lhs; simp -implicitDefEqProofs [*]) <;> exact rfl)))
    all_goals exact ⟨by simp, _, _, rfl, rfl, by simp [*], fun y h0 h1 => (by have e1 : ∀ k i, y ≠ ⟨k + 1, i, 0⟩ := fun k i e => (by subst e; simp at h0); have e2 : ∀ i, y ≠ ⟨1, i, 0⟩ := fun i => e1 0 i; have e3 : ∀ i, y ≠ ⟨2, i, 0⟩ := fun i => e1 1 i; have e4 : ∀ i, y ≠ ⟨3, i, 0⟩ := fun i => e1 2 i; have e5 : ∀ i, y ≠ ⟨4, i, 0⟩ := fun i => e1 3 i; simp [*, f3 _ _ _ y h0 h1])⟩
  obtain ⟨z, hp', h1, rfl, h2⟩ := key
  exact ⟨hp', h1, h2⟩
set_option maxHeartbeats 4000000 in
theorem m363_16is {code : List Int} {inp : ByteArray} {pc : Int} {rg : List Int} {M : AV} {rd steps en : Int} {o : Bool} {go no : Nat} (na nb nc at_ : Nat) (xb : Int) (hnc : nc ≤ 65535) (hat : (xb + nc) % 4294967296 = at_) (mem : List Int) (gm : Nat) (hM : M = .sl false 1 (rowW mem)) (x : Int) (hcx : mem[at_]? = some x) (hpc0 : 0 ≤ pc) (hpc1 : pc ≤ 4294967296)  (hrl : rg.length = 16) (d : Nat) (hp1 : Hp) (hx : hp1 ⟨0, 13, 0⟩ = .box 1 (bxP code inp pc rg M rd steps en o go no) false) (ha : na < 16) (hb16 : nb < 16) (hgb : rg[nb]? = some xb)  :
    ∃ hp', (lim Tryz.prog E00 X00).hpc 2 d 363 [.ptr ⟨0, 13, 0⟩ 1 0, .agg [iv 16, iv na, iv nb, iv nc]] hp1 = some (iv 0, hp') ∧ hp' ⟨0, 13, 0⟩ = .box 1 (bxP code inp (pc + 1) (rg.set na x) M rd steps en o go no) false ∧ ∀ y : Nm, y.d = 0 → y ≠ ⟨0, 13, 0⟩ → hp' y = hp1 y := by
  have key : ∃ z hp', (lim Tryz.prog E00 X00).hpc 2 d 363 [.ptr ⟨0, 13, 0⟩ 1 0, .agg [iv 16, iv na, iv nb, iv nc]] hp1 = some (z, hp') ∧ (z = iv 0 ∧ hp' ⟨0, 13, 0⟩ = .box 1 (bxP code inp (pc + 1) (rg.set na x) M rd steps en o go no) false ∧ ∀ y : Nm, y.d = 0 → y ≠ ⟨0, 13, 0⟩ → hp' y = hp1 y) := by
    refine lim_hpcW (R := fun z hp' => z = iv 0 ∧ hp' ⟨0, 13, 0⟩ = .box 1 (bxP code inp (pc + 1) (rg.set na x) M rd steps en o go no) false ∧ ∀ y : Nm, y.d = 0 → y ≠ ⟨0, 13, 0⟩ → hp' y = hp1 y) Tryz.func363 rfl rfl bodyOk_363 rfl rfl ?_
    have hNA := fun (k : Nat) (h : k < 16) => (⟨by omega, by omega⟩ : 3 + k ≤ 25 ∧ 3 + k < 26)
    try have hA := hNA _ ha
    try have hB := hNA _ hb16
    try have hC := hNA _ hc16
    clear hNA
    try have hga' := getV hga
    try have hgb' := getV hgb
    try have hgc' := getV hgc
    have hw : IntKind.i64.wrap (pc + 1) = pc + 1 := wrap64 (by omega) (by omega)
    obtain ⟨F, hF⟩ := skol (C := fun hp => hp ⟨0, 13, 0⟩ = .box 1 (bxP code inp pc rg M rd steps en o go no) false) (fun d hp (hc : hp ⟨0, 13, 0⟩ = .box 1 (bxP code inp pc rg M rd steps en o go no) false) => m400_16is na nb nc at_ xb hnc hat mem gm hM x hcx hrl d hp hc ha hb16 hgb)
    have f1 := fun d hp hc => (hF d hp hc).1
    have f2 := fun d hp hc => (hF d hp hc).2.1
    have f3 := fun d hp hc => (hF d hp hc).2.2
    clear hF
    repeat' (first
      | ((with_reducible first | apply Wo_u | apply Wo_n | apply ex2 | apply W_sc | apply W_c | apply Wd_u | apply Wd_n | apply ex4 | apply EndQ_ret | apply EndQ_normal); (conv => lhs; simp -implicitDefEqProofs [*]) <;> exact rfl)
      | (with_reducible first | apply Wo_nil | apply W_ss | apply W_srl | apply W_rl | apply W_sblock | apply W_block | apply W_sskip | apply W_skip | apply W_sret | apply W_ret | apply W_sexit | apply W_exit | apply thenW_n | apply thenW_r | apply thenW_e | apply inB_n | apply inB_r | apply inB_e)
      | ((with_reducible apply Wo_gt); (exact rfl); ((conv => lhs; simp -implicitDefEqProofs [*]) <;> exact rfl); (conv => lhs; simp -implicitDefEqProofs [*]) <;> exact rfl)
      | ((with_reducible apply Wo_gf); (exact rfl); ((conv => lhs; simp -implicitDefEqProofs [*]) <;> exact rfl); (exact rfl))
      | ((with_reducible apply Wo_gx); (exact rfl); ((conv => lhs; simp -implicitDefEqProofs [*]) <;> exact rfl))
      | ((with_reducible apply Wo_gsT); (exact rfl); ((conv => lhs; simp -implicitDefEqProofs [*]) <;> exact rfl))
      | ((with_reducible apply Wo_gsF); (exact rfl); ((conv => lhs; simp -implicitDefEqProofs [*]) <;> exact rfl))
      | ((with_reducible apply Wd_gsT); (exact rfl); ((conv => lhs; simp -implicitDefEqProofs [*]) <;> exact rfl))
      | ((with_reducible apply Wd_gsF); (exact rfl); ((conv => lhs; simp -implicitDefEqProofs [*]) <;> exact rfl))
      | ((with_reducible first | apply W_srdl | apply W_rdl); kernel_rfl)
      | ((with_reducible apply Wd_nil); kernel_rfl)
      | ((with_reducible apply inB_o); rotate_left; exact rfl)
      | (intro h h'; try simp [*, -h] at h')
      | ((with_reducible apply Wd_gx); (exact rfl); ((conv => lhs; simp -implicitDefEqProofs [*]) <;> exact rfl)))
    all_goals exact ⟨by simp, _, _, rfl, rfl, by simp [*], fun y h0 h1 => (by have e1 : ∀ k i, y ≠ ⟨k + 1, i, 0⟩ := fun k i e => (by subst e; simp at h0); have e2 : ∀ i, y ≠ ⟨1, i, 0⟩ := fun i => e1 0 i; have e3 : ∀ i, y ≠ ⟨2, i, 0⟩ := fun i => e1 1 i; have e4 : ∀ i, y ≠ ⟨3, i, 0⟩ := fun i => e1 2 i; have e5 : ∀ i, y ≠ ⟨4, i, 0⟩ := fun i => e1 3 i; simp [*, f3 _ _ _ y h0 h1])⟩
  obtain ⟨z, hp', h1, rfl, h2⟩ := key
  exact ⟨hp', h1, h2⟩
set_option maxHeartbeats 4000000 in
theorem m363_16os {code : List Int} {inp : ByteArray} {pc : Int} {rg : List Int} {M : AV} {rd steps en : Int} {o : Bool} {go no : Nat} (na nb nc at_ : Nat) (xb : Int) (hnc : nc ≤ 65535) (hat : (xb + nc) % 4294967296 = at_) (mem : List Int) (gm : Nat) (hM : M = .sl false 1 (rowW mem)) (hcx : mem.length ≤ at_) (hpc0 : 0 ≤ pc) (hpc1 : pc ≤ 4294967296)  (hrl : rg.length = 16) (d : Nat) (hp1 : Hp) (hx : hp1 ⟨0, 13, 0⟩ = .box 1 (bxP code inp pc rg M rd steps en o go no) false) (ha : na < 16) (hb16 : nb < 16) (hgb : rg[nb]? = some xb)  :
    ∃ hp', (lim Tryz.prog E00 X00).hpc 2 d 363 [.ptr ⟨0, 13, 0⟩ 1 0, .agg [iv 16, iv na, iv nb, iv nc]] hp1 = some (iv 8, hp') ∧ hp' ⟨0, 13, 0⟩ = .box 1 (bxP code inp pc rg M rd steps en o go no) false ∧ ∀ y : Nm, y.d = 0 → y ≠ ⟨0, 13, 0⟩ → hp' y = hp1 y := by
  have key : ∃ z hp', (lim Tryz.prog E00 X00).hpc 2 d 363 [.ptr ⟨0, 13, 0⟩ 1 0, .agg [iv 16, iv na, iv nb, iv nc]] hp1 = some (z, hp') ∧ (z = iv 8 ∧ hp' ⟨0, 13, 0⟩ = .box 1 (bxP code inp pc rg M rd steps en o go no) false ∧ ∀ y : Nm, y.d = 0 → y ≠ ⟨0, 13, 0⟩ → hp' y = hp1 y) := by
    refine lim_hpcW (R := fun z hp' => z = iv 8 ∧ hp' ⟨0, 13, 0⟩ = .box 1 (bxP code inp pc rg M rd steps en o go no) false ∧ ∀ y : Nm, y.d = 0 → y ≠ ⟨0, 13, 0⟩ → hp' y = hp1 y) Tryz.func363 rfl rfl bodyOk_363 rfl rfl ?_
    have hNA := fun (k : Nat) (h : k < 16) => (⟨by omega, by omega⟩ : 3 + k ≤ 25 ∧ 3 + k < 26)
    try have hA := hNA _ ha
    try have hB := hNA _ hb16
    try have hC := hNA _ hc16
    clear hNA
    try have hga' := getV hga
    try have hgb' := getV hgb
    try have hgc' := getV hgc
    have hw : IntKind.i64.wrap (pc + 1) = pc + 1 := wrap64 (by omega) (by omega)
    obtain ⟨F, hF⟩ := skol (C := fun hp => hp ⟨0, 13, 0⟩ = .box 1 (bxP code inp pc rg M rd steps en o go no) false) (fun d hp (hc : hp ⟨0, 13, 0⟩ = .box 1 (bxP code inp pc rg M rd steps en o go no) false) => m400_16os na nb nc at_ xb hnc hat mem gm hM hcx hrl d hp hc ha hb16 hgb)
    have f1 := fun d hp hc => (hF d hp hc).1
    have f2 := fun d hp hc => (hF d hp hc).2.1
    have f3 := fun d hp hc => (hF d hp hc).2.2
    clear hF
    repeat' (first
      | ((with_reducible first | apply Wo_u | apply Wo_n | apply ex2 | apply W_sc | apply W_c | apply Wd_u | apply Wd_n | apply ex4 | apply EndQ_ret | apply EndQ_normal); (conv => lhs; simp -implicitDefEqProofs [*]) <;> exact rfl)
      | (with_reducible first | apply Wo_nil | apply W_ss | apply W_srl | apply W_rl | apply W_sblock | apply W_block | apply W_sskip | apply W_skip | apply W_sret | apply W_ret | apply W_sexit | apply W_exit | apply thenW_n | apply thenW_r | apply thenW_e | apply inB_n | apply inB_r | apply inB_e)
      | ((with_reducible apply Wo_gt); (exact rfl); ((conv => lhs; simp -implicitDefEqProofs [*]) <;> exact rfl); (conv => lhs; simp -implicitDefEqProofs [*]) <;> exact rfl)
      | ((with_reducible apply Wo_gf); (exact rfl); ((conv => lhs; simp -implicitDefEqProofs [*]) <;> exact rfl); (exact rfl))
      | ((with_reducible apply Wo_gx); (exact rfl); ((conv => lhs; simp -implicitDefEqProofs [*]) <;> exact rfl))
      | ((with_reducible apply Wo_gsT); (exact rfl); ((conv => lhs; simp -implicitDefEqProofs [*]) <;> exact rfl))
      | ((with_reducible apply Wo_gsF); (exact rfl); ((conv => lhs; simp -implicitDefEqProofs [*]) <;> exact rfl))
      | ((with_reducible apply Wd_gsT); (exact rfl); ((conv => lhs; simp -implicitDefEqProofs [*]) <;> exact rfl))
      | ((with_reducible apply Wd_gsF); (exact rfl); ((conv => lhs; simp -implicitDefEqProofs [*]) <;> exact rfl))
      | ((with_reducible first | apply W_srdl | apply W_rdl); kernel_rfl)
      | ((with_reducible apply Wd_nil); kernel_rfl)
      | ((with_reducible apply inB_o); rotate_left; exact rfl)
      | (intro h h'; try simp [*, -h] at h')
      | ((with_reducible apply Wd_gx); (exact rfl); ((conv => lhs; simp -implicitDefEqProofs [*]) <;> exact rfl)))
    all_goals exact ⟨by simp, _, _, rfl, rfl, by simp [*], fun y h0 h1 => (by have e1 : ∀ k i, y ≠ ⟨k + 1, i, 0⟩ := fun k i e => (by subst e; simp at h0); have e2 : ∀ i, y ≠ ⟨1, i, 0⟩ := fun i => e1 0 i; have e3 : ∀ i, y ≠ ⟨2, i, 0⟩ := fun i => e1 1 i; have e4 : ∀ i, y ≠ ⟨3, i, 0⟩ := fun i => e1 2 i; have e5 : ∀ i, y ≠ ⟨4, i, 0⟩ := fun i => e1 3 i; simp [*, f3 _ _ _ y h0 h1])⟩
  obtain ⟨z, hp', h1, rfl, h2⟩ := key
  exact ⟨hp', h1, h2⟩
set_option maxHeartbeats 4000000 in
theorem m363_17os {code : List Int} {inp : ByteArray} {pc : Int} {rg : List Int} {M : AV} {rd steps en : Int} {o : Bool} {go no : Nat} (na nb nc at_ : Nat) (xb : Int) (hnc : nc ≤ 65535) (hat : (xb + nc) % 4294967296 = at_) (mem : List Int) (gm : Nat) (hM : M = .sl false 1 (rowW mem)) (hcx : mem.length ≤ at_) (hpc0 : 0 ≤ pc) (hpc1 : pc ≤ 4294967296)  (hrl : rg.length = 16) (d : Nat) (hp1 : Hp) (hx : hp1 ⟨0, 13, 0⟩ = .box 1 (bxP code inp pc rg M rd steps en o go no) false) (ha : na < 16) (hb16 : nb < 16) (hgb : rg[nb]? = some xb)  :
    ∃ hp', (lim Tryz.prog E00 X00).hpc 2 d 363 [.ptr ⟨0, 13, 0⟩ 1 0, .agg [iv 17, iv na, iv nb, iv nc]] hp1 = some (iv 8, hp') ∧ hp' ⟨0, 13, 0⟩ = .box 1 (bxP code inp pc rg M rd steps en o go no) false ∧ ∀ y : Nm, y.d = 0 → y ≠ ⟨0, 13, 0⟩ → hp' y = hp1 y := by
  have key : ∃ z hp', (lim Tryz.prog E00 X00).hpc 2 d 363 [.ptr ⟨0, 13, 0⟩ 1 0, .agg [iv 17, iv na, iv nb, iv nc]] hp1 = some (z, hp') ∧ (z = iv 8 ∧ hp' ⟨0, 13, 0⟩ = .box 1 (bxP code inp pc rg M rd steps en o go no) false ∧ ∀ y : Nm, y.d = 0 → y ≠ ⟨0, 13, 0⟩ → hp' y = hp1 y) := by
    refine lim_hpcW (R := fun z hp' => z = iv 8 ∧ hp' ⟨0, 13, 0⟩ = .box 1 (bxP code inp pc rg M rd steps en o go no) false ∧ ∀ y : Nm, y.d = 0 → y ≠ ⟨0, 13, 0⟩ → hp' y = hp1 y) Tryz.func363 rfl rfl bodyOk_363 rfl rfl ?_
    have hNA := fun (k : Nat) (h : k < 16) => (⟨by omega, by omega⟩ : 3 + k ≤ 25 ∧ 3 + k < 26)
    try have hA := hNA _ ha
    try have hB := hNA _ hb16
    try have hC := hNA _ hc16
    clear hNA
    try have hga' := getV hga
    try have hgb' := getV hgb
    try have hgc' := getV hgc
    have hw : IntKind.i64.wrap (pc + 1) = pc + 1 := wrap64 (by omega) (by omega)
    obtain ⟨F, hF⟩ := skol (C := fun hp => hp ⟨0, 13, 0⟩ = .box 1 (bxP code inp pc rg M rd steps en o go no) false) (fun d hp (hc : hp ⟨0, 13, 0⟩ = .box 1 (bxP code inp pc rg M rd steps en o go no) false) => m400_17os na nb nc at_ xb hnc hat mem gm hM hcx hrl d hp hc ha hb16 hgb)
    have f1 := fun d hp hc => (hF d hp hc).1
    have f2 := fun d hp hc => (hF d hp hc).2.1
    have f3 := fun d hp hc => (hF d hp hc).2.2
    clear hF
    repeat' (first
      | ((with_reducible first | apply Wo_u | apply Wo_n | apply ex2 | apply W_sc | apply W_c | apply Wd_u | apply Wd_n | apply ex4 | apply EndQ_ret | apply EndQ_normal); (conv => lhs; simp -implicitDefEqProofs [*]) <;> exact rfl)
      | (with_reducible first | apply Wo_nil | apply W_ss | apply W_srl | apply W_rl | apply W_sblock | apply W_block | apply W_sskip | apply W_skip | apply W_sret | apply W_ret | apply W_sexit | apply W_exit | apply thenW_n | apply thenW_r | apply thenW_e | apply inB_n | apply inB_r | apply inB_e)
      | ((with_reducible apply Wo_gt); (exact rfl); ((conv => lhs; simp -implicitDefEqProofs [*]) <;> exact rfl); (conv => lhs; simp -implicitDefEqProofs [*]) <;> exact rfl)
      | ((with_reducible apply Wo_gf); (exact rfl); ((conv => lhs; simp -implicitDefEqProofs [*]) <;> exact rfl); (exact rfl))
      | ((with_reducible apply Wo_gx); (exact rfl); ((conv => lhs; simp -implicitDefEqProofs [*]) <;> exact rfl))
      | ((with_reducible apply Wo_gsT); (exact rfl); ((conv => lhs; simp -implicitDefEqProofs [*]) <;> exact rfl))
      | ((with_reducible apply Wo_gsF); (exact rfl); ((conv => lhs; simp -implicitDefEqProofs [*]) <;> exact rfl))
      | ((with_reducible apply Wd_gsT); (exact rfl); ((conv => lhs; simp -implicitDefEqProofs [*]) <;> exact rfl))
      | ((with_reducible apply Wd_gsF); (exact rfl); ((conv => lhs; simp -implicitDefEqProofs [*]) <;> exact rfl))
      | ((with_reducible first | apply W_srdl | apply W_rdl); kernel_rfl)
      | ((with_reducible apply Wd_nil); kernel_rfl)
      | ((with_reducible apply inB_o); rotate_left; exact rfl)
      | (intro h h'; try simp [*, -h] at h')
      | ((with_reducible apply Wd_gx); (exact rfl); ((conv => lhs; simp -implicitDefEqProofs [*]) <;> exact rfl)))
    all_goals exact ⟨by simp, _, _, rfl, rfl, by simp [*], fun y h0 h1 => (by have e1 : ∀ k i, y ≠ ⟨k + 1, i, 0⟩ := fun k i e => (by subst e; simp at h0); have e2 : ∀ i, y ≠ ⟨1, i, 0⟩ := fun i => e1 0 i; have e3 : ∀ i, y ≠ ⟨2, i, 0⟩ := fun i => e1 1 i; have e4 : ∀ i, y ≠ ⟨3, i, 0⟩ := fun i => e1 2 i; have e5 : ∀ i, y ≠ ⟨4, i, 0⟩ := fun i => e1 3 i; simp [*, f3 _ _ _ y h0 h1])⟩
  obtain ⟨z, hp', h1, rfl, h2⟩ := key
  exact ⟨hp', h1, h2⟩
set_option maxHeartbeats 4000000 in
theorem m363_17is {code : List Int} {inp : ByteArray} {pc : Int} {rg : List Int} {M : AV} {rd steps en : Int} {o : Bool} {go no : Nat} (na nb nc at_ : Nat) (xa xb : Int) (hnc : nc ≤ 65535) (hat : (xb + nc) % 4294967296 = at_) (mem : List Int) (gm : Nat) (hM : M = .sl false 1 (rowW mem)) (ho : o = false) (hml0 : mem.length ≤ 1048576) (hcx : at_ < mem.length) (hpc0 : 0 ≤ pc) (hpc1 : pc ≤ 4294967296)  (hrl : rg.length = 16) (d : Nat) (hp1 : Hp) (hx : hp1 ⟨0, 13, 0⟩ = .box 1 (bxP code inp pc rg M rd steps en o go no) false) (ha : na < 16) (hb16 : nb < 16) (hga : rg[na]? = some xa) (hgb : rg[nb]? = some xb)  :
    ∃ hp', (lim Tryz.prog E00 X00).hpc 2 d 363 [.ptr ⟨0, 13, 0⟩ 1 0, .agg [iv 17, iv na, iv nb, iv nc]] hp1 = some (iv 0, hp') ∧ hp' ⟨0, 13, 0⟩ = .box 1 (bxP code inp (pc + 1) rg (.own ⟨0, 13, 20⟩ ((hp1 ⟨0, 13, 20⟩).gen + 1) mem.length) rd steps en true go no) false ∧ hp' ⟨0, 13, 20⟩ = .arr ((hp1 ⟨0, 13, 20⟩).gen + 1) 1 32 (rowW (mem.set at_ xa)) false ∧ ∀ y : Nm, y.d = 0 → y ≠ ⟨0, 13, 0⟩ → y ≠ ⟨0, 13, 20⟩ → hp' y = hp1 y := by
  have key : ∃ z hp', (lim Tryz.prog E00 X00).hpc 2 d 363 [.ptr ⟨0, 13, 0⟩ 1 0, .agg [iv 17, iv na, iv nb, iv nc]] hp1 = some (z, hp') ∧ (z = iv 0 ∧ hp' ⟨0, 13, 0⟩ = .box 1 (bxP code inp (pc + 1) rg (.own ⟨0, 13, 20⟩ ((hp1 ⟨0, 13, 20⟩).gen + 1) mem.length) rd steps en true go no) false ∧ hp' ⟨0, 13, 20⟩ = .arr ((hp1 ⟨0, 13, 20⟩).gen + 1) 1 32 (rowW (mem.set at_ xa)) false ∧ ∀ y : Nm, y.d = 0 → y ≠ ⟨0, 13, 0⟩ → y ≠ ⟨0, 13, 20⟩ → hp' y = hp1 y) := by
    refine lim_hpcW (R := fun z hp' => z = iv 0 ∧ hp' ⟨0, 13, 0⟩ = .box 1 (bxP code inp (pc + 1) rg (.own ⟨0, 13, 20⟩ ((hp1 ⟨0, 13, 20⟩).gen + 1) mem.length) rd steps en true go no) false ∧ hp' ⟨0, 13, 20⟩ = .arr ((hp1 ⟨0, 13, 20⟩).gen + 1) 1 32 (rowW (mem.set at_ xa)) false ∧ ∀ y : Nm, y.d = 0 → y ≠ ⟨0, 13, 0⟩ → y ≠ ⟨0, 13, 20⟩ → hp' y = hp1 y) Tryz.func363 rfl rfl bodyOk_363 rfl rfl ?_
    have hNA := fun (k : Nat) (h : k < 16) => (⟨by omega, by omega⟩ : 3 + k ≤ 25 ∧ 3 + k < 26)
    try have hA := hNA _ ha
    try have hB := hNA _ hb16
    try have hC := hNA _ hc16
    clear hNA
    try have hga' := getV hga
    try have hgb' := getV hgb
    try have hgc' := getV hgc
    have hw : IntKind.i64.wrap (pc + 1) = pc + 1 := wrap64 (by omega) (by omega)
    obtain ⟨F, hF⟩ := skol (C := fun hp => hp ⟨0, 13, 0⟩ = .box 1 (bxP code inp pc rg M rd steps en o go no) false) (fun d hp (hc : hp ⟨0, 13, 0⟩ = .box 1 (bxP code inp pc rg M rd steps en o go no) false) => m400_17is na nb nc at_ xa xb hnc hat mem gm hM ho hml0 hcx hrl d hp hc ha hb16 hga hgb)
    have f1 := fun d hp hc => (hF d hp hc).1
    have f2 := fun d hp hc => (hF d hp hc).2.1
    have f4 := fun d hp hc => (hF d hp hc).2.2.1
    have f3 := fun d hp hc => (hF d hp hc).2.2.2
    clear hF
    repeat' (first
      | ((with_reducible first | apply Wo_u | apply Wo_n | apply ex2 | apply W_sc | apply W_c | apply Wd_u | apply Wd_n | apply ex4 | apply EndQ_ret | apply EndQ_normal); (conv => lhs; simp -implicitDefEqProofs [*]) <;> exact rfl)
      | (with_reducible first | apply Wo_nil | apply W_ss | apply W_srl | apply W_rl | apply W_sblock | apply W_block | apply W_sskip | apply W_skip | apply W_sret | apply W_ret | apply W_sexit | apply W_exit | apply thenW_n | apply thenW_r | apply thenW_e | apply inB_n | apply inB_r | apply inB_e)
      | ((with_reducible apply Wo_gt); (exact rfl); ((conv => lhs; simp -implicitDefEqProofs [*]) <;> exact rfl); (conv => lhs; simp -implicitDefEqProofs [*]) <;> exact rfl)
      | ((with_reducible apply Wo_gf); (exact rfl); ((conv => lhs; simp -implicitDefEqProofs [*]) <;> exact rfl); (exact rfl))
      | ((with_reducible apply Wo_gx); (exact rfl); ((conv => lhs; simp -implicitDefEqProofs [*]) <;> exact rfl))
      | ((with_reducible apply Wo_gsT); (exact rfl); ((conv => lhs; simp -implicitDefEqProofs [*]) <;> exact rfl))
      | ((with_reducible apply Wo_gsF); (exact rfl); ((conv => lhs; simp -implicitDefEqProofs [*]) <;> exact rfl))
      | ((with_reducible apply Wd_gsT); (exact rfl); ((conv => lhs; simp -implicitDefEqProofs [*]) <;> exact rfl))
      | ((with_reducible apply Wd_gsF); (exact rfl); ((conv => lhs; simp -implicitDefEqProofs [*]) <;> exact rfl))
      | ((with_reducible first | apply W_srdl | apply W_rdl); kernel_rfl)
      | ((with_reducible apply Wd_nil); kernel_rfl)
      | ((with_reducible apply inB_o); rotate_left; exact rfl)
      | (intro h h'; try simp [*, -h] at h')
      | ((with_reducible apply Wd_gx); (exact rfl); ((conv => lhs; simp -implicitDefEqProofs [*]) <;> exact rfl)))
    all_goals exact ⟨by simp, _, _, rfl, rfl, by simp [*], by simp [*], fun y h0 h1 h2 => (by have e1 : ∀ k i, y ≠ ⟨k + 1, i, 0⟩ := fun k i e => (by subst e; simp at h0); have e2 : ∀ i, y ≠ ⟨1, i, 0⟩ := fun i => e1 0 i; have e3 : ∀ i, y ≠ ⟨2, i, 0⟩ := fun i => e1 1 i; have e4 : ∀ i, y ≠ ⟨3, i, 0⟩ := fun i => e1 2 i; have e5 : ∀ i, y ≠ ⟨4, i, 0⟩ := fun i => e1 3 i; simp [*, f3 _ _ _ y h0 h1 h2])⟩
  obtain ⟨z, hp', h1, rfl, h2⟩ := key
  exact ⟨hp', h1, h2⟩
set_option maxHeartbeats 4000000 in
theorem m363_16iw {code : List Int} {inp : ByteArray} {pc : Int} {rg : List Int} {M : AV} {rd steps en : Int} {o : Bool} {go no : Nat} (na nb nc at_ : Nat) (xb : Int) (hnc : nc ≤ 65535) (hat : (xb + nc) % 4294967296 = at_) (mem : List Int) (gm : Nat) (hM : M = .own ⟨0, 13, 20⟩ gm mem.length) (x : Int) (hcx : mem[at_]? = some x) (hpc0 : 0 ≤ pc) (hpc1 : pc ≤ 4294967296)  (hrl : rg.length = 16) (d : Nat) (hp1 : Hp) (hx : hp1 ⟨0, 13, 0⟩ = .box 1 (bxP code inp pc rg M rd steps en o go no) false) (ha : na < 16) (hb16 : nb < 16) (hgb : rg[nb]? = some xb) (hm : hp1 ⟨0, 13, 20⟩ = .arr gm 1 32 (rowW mem) false) :
    ∃ hp', (lim Tryz.prog E00 X00).hpc 2 d 363 [.ptr ⟨0, 13, 0⟩ 1 0, .agg [iv 16, iv na, iv nb, iv nc]] hp1 = some (iv 0, hp') ∧ hp' ⟨0, 13, 0⟩ = .box 1 (bxP code inp (pc + 1) (rg.set na x) M rd steps en o go no) false ∧ ∀ y : Nm, y.d = 0 → y ≠ ⟨0, 13, 0⟩ → hp' y = hp1 y := by
  have key : ∃ z hp', (lim Tryz.prog E00 X00).hpc 2 d 363 [.ptr ⟨0, 13, 0⟩ 1 0, .agg [iv 16, iv na, iv nb, iv nc]] hp1 = some (z, hp') ∧ (z = iv 0 ∧ hp' ⟨0, 13, 0⟩ = .box 1 (bxP code inp (pc + 1) (rg.set na x) M rd steps en o go no) false ∧ ∀ y : Nm, y.d = 0 → y ≠ ⟨0, 13, 0⟩ → hp' y = hp1 y) := by
    refine lim_hpcW (R := fun z hp' => z = iv 0 ∧ hp' ⟨0, 13, 0⟩ = .box 1 (bxP code inp (pc + 1) (rg.set na x) M rd steps en o go no) false ∧ ∀ y : Nm, y.d = 0 → y ≠ ⟨0, 13, 0⟩ → hp' y = hp1 y) Tryz.func363 rfl rfl bodyOk_363 rfl rfl ?_
    have hNA := fun (k : Nat) (h : k < 16) => (⟨by omega, by omega⟩ : 3 + k ≤ 25 ∧ 3 + k < 26)
    try have hA := hNA _ ha
    try have hB := hNA _ hb16
    try have hC := hNA _ hc16
    clear hNA
    try have hga' := getV hga
    try have hgb' := getV hgb
    try have hgc' := getV hgc
    have hw : IntKind.i64.wrap (pc + 1) = pc + 1 := wrap64 (by omega) (by omega)
    obtain ⟨F, hF⟩ := skol (C := fun hp => hp ⟨0, 13, 0⟩ = .box 1 (bxP code inp pc rg M rd steps en o go no) false ∧ hp ⟨0, 13, 20⟩ = .arr gm 1 32 (rowW mem) false) (fun d hp (hc : hp ⟨0, 13, 0⟩ = .box 1 (bxP code inp pc rg M rd steps en o go no) false ∧ hp ⟨0, 13, 20⟩ = .arr gm 1 32 (rowW mem) false) => m400_16iw na nb nc at_ xb hnc hat mem gm hM x hcx hrl d hp hc.1 ha hb16 hgb hc.2)
    have f1 := fun d hp hc => (hF d hp hc).1
    have f2 := fun d hp hc => (hF d hp hc).2.1
    have f3 := fun d hp hc => (hF d hp hc).2.2
    clear hF
    repeat' (first
      | ((with_reducible first | apply Wo_u | apply Wo_n | apply ex2 | apply W_sc | apply W_c | apply Wd_u | apply Wd_n | apply ex4 | apply EndQ_ret | apply EndQ_normal); (conv => lhs; simp -implicitDefEqProofs [*]) <;> exact rfl)
      | (with_reducible first | apply Wo_nil | apply W_ss | apply W_srl | apply W_rl | apply W_sblock | apply W_block | apply W_sskip | apply W_skip | apply W_sret | apply W_ret | apply W_sexit | apply W_exit | apply thenW_n | apply thenW_r | apply thenW_e | apply inB_n | apply inB_r | apply inB_e)
      | ((with_reducible apply Wo_gt); (exact rfl); ((conv => lhs; simp -implicitDefEqProofs [*]) <;> exact rfl); (conv => lhs; simp -implicitDefEqProofs [*]) <;> exact rfl)
      | ((with_reducible apply Wo_gf); (exact rfl); ((conv => lhs; simp -implicitDefEqProofs [*]) <;> exact rfl); (exact rfl))
      | ((with_reducible apply Wo_gx); (exact rfl); ((conv => lhs; simp -implicitDefEqProofs [*]) <;> exact rfl))
      | ((with_reducible apply Wo_gsT); (exact rfl); ((conv => lhs; simp -implicitDefEqProofs [*]) <;> exact rfl))
      | ((with_reducible apply Wo_gsF); (exact rfl); ((conv => lhs; simp -implicitDefEqProofs [*]) <;> exact rfl))
      | ((with_reducible apply Wd_gsT); (exact rfl); ((conv => lhs; simp -implicitDefEqProofs [*]) <;> exact rfl))
      | ((with_reducible apply Wd_gsF); (exact rfl); ((conv => lhs; simp -implicitDefEqProofs [*]) <;> exact rfl))
      | ((with_reducible first | apply W_srdl | apply W_rdl); kernel_rfl)
      | ((with_reducible apply Wd_nil); kernel_rfl)
      | ((with_reducible apply inB_o); rotate_left; exact rfl)
      | (intro h h'; try simp [*, -h] at h')
      | ((with_reducible apply Wd_gx); (exact rfl); ((conv => lhs; simp -implicitDefEqProofs [*]) <;> exact rfl)))
    all_goals exact ⟨by simp, _, _, rfl, rfl, by simp [*], fun y h0 h1 => (by have e1 : ∀ k i, y ≠ ⟨k + 1, i, 0⟩ := fun k i e => (by subst e; simp at h0); have e2 : ∀ i, y ≠ ⟨1, i, 0⟩ := fun i => e1 0 i; have e3 : ∀ i, y ≠ ⟨2, i, 0⟩ := fun i => e1 1 i; have e4 : ∀ i, y ≠ ⟨3, i, 0⟩ := fun i => e1 2 i; have e5 : ∀ i, y ≠ ⟨4, i, 0⟩ := fun i => e1 3 i; simp [*, f3 _ _ _ y h0 h1])⟩
  obtain ⟨z, hp', h1, rfl, h2⟩ := key
  exact ⟨hp', h1, h2⟩
set_option maxHeartbeats 4000000 in
theorem m363_16ow {code : List Int} {inp : ByteArray} {pc : Int} {rg : List Int} {M : AV} {rd steps en : Int} {o : Bool} {go no : Nat} (na nb nc at_ : Nat) (xb : Int) (hnc : nc ≤ 65535) (hat : (xb + nc) % 4294967296 = at_) (mem : List Int) (gm : Nat) (hM : M = .own ⟨0, 13, 20⟩ gm mem.length) (hcx : mem.length ≤ at_) (hpc0 : 0 ≤ pc) (hpc1 : pc ≤ 4294967296)  (hrl : rg.length = 16) (d : Nat) (hp1 : Hp) (hx : hp1 ⟨0, 13, 0⟩ = .box 1 (bxP code inp pc rg M rd steps en o go no) false) (ha : na < 16) (hb16 : nb < 16) (hgb : rg[nb]? = some xb) (hm : hp1 ⟨0, 13, 20⟩ = .arr gm 1 32 (rowW mem) false) :
    ∃ hp', (lim Tryz.prog E00 X00).hpc 2 d 363 [.ptr ⟨0, 13, 0⟩ 1 0, .agg [iv 16, iv na, iv nb, iv nc]] hp1 = some (iv 8, hp') ∧ hp' ⟨0, 13, 0⟩ = .box 1 (bxP code inp pc rg M rd steps en o go no) false ∧ ∀ y : Nm, y.d = 0 → y ≠ ⟨0, 13, 0⟩ → hp' y = hp1 y := by
  have key : ∃ z hp', (lim Tryz.prog E00 X00).hpc 2 d 363 [.ptr ⟨0, 13, 0⟩ 1 0, .agg [iv 16, iv na, iv nb, iv nc]] hp1 = some (z, hp') ∧ (z = iv 8 ∧ hp' ⟨0, 13, 0⟩ = .box 1 (bxP code inp pc rg M rd steps en o go no) false ∧ ∀ y : Nm, y.d = 0 → y ≠ ⟨0, 13, 0⟩ → hp' y = hp1 y) := by
    refine lim_hpcW (R := fun z hp' => z = iv 8 ∧ hp' ⟨0, 13, 0⟩ = .box 1 (bxP code inp pc rg M rd steps en o go no) false ∧ ∀ y : Nm, y.d = 0 → y ≠ ⟨0, 13, 0⟩ → hp' y = hp1 y) Tryz.func363 rfl rfl bodyOk_363 rfl rfl ?_
    have hNA := fun (k : Nat) (h : k < 16) => (⟨by omega, by omega⟩ : 3 + k ≤ 25 ∧ 3 + k < 26)
    try have hA := hNA _ ha
    try have hB := hNA _ hb16
    try have hC := hNA _ hc16
    clear hNA
    try have hga' := getV hga
    try have hgb' := getV hgb
    try have hgc' := getV hgc
    have hw : IntKind.i64.wrap (pc + 1) = pc + 1 := wrap64 (by omega) (by omega)
    obtain ⟨F, hF⟩ := skol (C := fun hp => hp ⟨0, 13, 0⟩ = .box 1 (bxP code inp pc rg M rd steps en o go no) false ∧ hp ⟨0, 13, 20⟩ = .arr gm 1 32 (rowW mem) false) (fun d hp (hc : hp ⟨0, 13, 0⟩ = .box 1 (bxP code inp pc rg M rd steps en o go no) false ∧ hp ⟨0, 13, 20⟩ = .arr gm 1 32 (rowW mem) false) => m400_16ow na nb nc at_ xb hnc hat mem gm hM hcx hrl d hp hc.1 ha hb16 hgb hc.2)
    have f1 := fun d hp hc => (hF d hp hc).1
    have f2 := fun d hp hc => (hF d hp hc).2.1
    have f3 := fun d hp hc => (hF d hp hc).2.2
    clear hF
    repeat' (first
      | ((with_reducible first | apply Wo_u | apply Wo_n | apply ex2 | apply W_sc | apply W_c | apply Wd_u | apply Wd_n | apply ex4 | apply EndQ_ret | apply EndQ_normal); (conv => lhs; simp -implicitDefEqProofs [*]) <;> exact rfl)
      | (with_reducible first | apply Wo_nil | apply W_ss | apply W_srl | apply W_rl | apply W_sblock | apply W_block | apply W_sskip | apply W_skip | apply W_sret | apply W_ret | apply W_sexit | apply W_exit | apply thenW_n | apply thenW_r | apply thenW_e | apply inB_n | apply inB_r | apply inB_e)
      | ((with_reducible apply Wo_gt); (exact rfl); ((conv => lhs; simp -implicitDefEqProofs [*]) <;> exact rfl); (conv => lhs; simp -implicitDefEqProofs [*]) <;> exact rfl)
      | ((with_reducible apply Wo_gf); (exact rfl); ((conv => lhs; simp -implicitDefEqProofs [*]) <;> exact rfl); (exact rfl))
      | ((with_reducible apply Wo_gx); (exact rfl); ((conv => lhs; simp -implicitDefEqProofs [*]) <;> exact rfl))
      | ((with_reducible apply Wo_gsT); (exact rfl); ((conv => lhs; simp -implicitDefEqProofs [*]) <;> exact rfl))
      | ((with_reducible apply Wo_gsF); (exact rfl); ((conv => lhs; simp -implicitDefEqProofs [*]) <;> exact rfl))
      | ((with_reducible apply Wd_gsT); (exact rfl); ((conv => lhs; simp -implicitDefEqProofs [*]) <;> exact rfl))
      | ((with_reducible apply Wd_gsF); (exact rfl); ((conv => lhs; simp -implicitDefEqProofs [*]) <;> exact rfl))
      | ((with_reducible first | apply W_srdl | apply W_rdl); kernel_rfl)
      | ((with_reducible apply Wd_nil); kernel_rfl)
      | ((with_reducible apply inB_o); rotate_left; exact rfl)
      | (intro h h'; try simp [*, -h] at h')
      | ((with_reducible apply Wd_gx); (exact rfl); ((conv => lhs; simp -implicitDefEqProofs [*]) <;> exact rfl)))
    all_goals exact ⟨by simp, _, _, rfl, rfl, by simp [*], fun y h0 h1 => (by have e1 : ∀ k i, y ≠ ⟨k + 1, i, 0⟩ := fun k i e => (by subst e; simp at h0); have e2 : ∀ i, y ≠ ⟨1, i, 0⟩ := fun i => e1 0 i; have e3 : ∀ i, y ≠ ⟨2, i, 0⟩ := fun i => e1 1 i; have e4 : ∀ i, y ≠ ⟨3, i, 0⟩ := fun i => e1 2 i; have e5 : ∀ i, y ≠ ⟨4, i, 0⟩ := fun i => e1 3 i; simp [*, f3 _ _ _ y h0 h1])⟩
  obtain ⟨z, hp', h1, rfl, h2⟩ := key
  exact ⟨hp', h1, h2⟩
set_option maxHeartbeats 4000000 in
theorem m363_17ow {code : List Int} {inp : ByteArray} {pc : Int} {rg : List Int} {M : AV} {rd steps en : Int} {o : Bool} {go no : Nat} (na nb nc at_ : Nat) (xb : Int) (hnc : nc ≤ 65535) (hat : (xb + nc) % 4294967296 = at_) (mem : List Int) (gm : Nat) (hM : M = .own ⟨0, 13, 20⟩ gm mem.length) (hcx : mem.length ≤ at_) (hpc0 : 0 ≤ pc) (hpc1 : pc ≤ 4294967296)  (hrl : rg.length = 16) (d : Nat) (hp1 : Hp) (hx : hp1 ⟨0, 13, 0⟩ = .box 1 (bxP code inp pc rg M rd steps en o go no) false) (ha : na < 16) (hb16 : nb < 16) (hgb : rg[nb]? = some xb) (hm : hp1 ⟨0, 13, 20⟩ = .arr gm 1 32 (rowW mem) false) :
    ∃ hp', (lim Tryz.prog E00 X00).hpc 2 d 363 [.ptr ⟨0, 13, 0⟩ 1 0, .agg [iv 17, iv na, iv nb, iv nc]] hp1 = some (iv 8, hp') ∧ hp' ⟨0, 13, 0⟩ = .box 1 (bxP code inp pc rg M rd steps en o go no) false ∧ ∀ y : Nm, y.d = 0 → y ≠ ⟨0, 13, 0⟩ → hp' y = hp1 y := by
  have key : ∃ z hp', (lim Tryz.prog E00 X00).hpc 2 d 363 [.ptr ⟨0, 13, 0⟩ 1 0, .agg [iv 17, iv na, iv nb, iv nc]] hp1 = some (z, hp') ∧ (z = iv 8 ∧ hp' ⟨0, 13, 0⟩ = .box 1 (bxP code inp pc rg M rd steps en o go no) false ∧ ∀ y : Nm, y.d = 0 → y ≠ ⟨0, 13, 0⟩ → hp' y = hp1 y) := by
    refine lim_hpcW (R := fun z hp' => z = iv 8 ∧ hp' ⟨0, 13, 0⟩ = .box 1 (bxP code inp pc rg M rd steps en o go no) false ∧ ∀ y : Nm, y.d = 0 → y ≠ ⟨0, 13, 0⟩ → hp' y = hp1 y) Tryz.func363 rfl rfl bodyOk_363 rfl rfl ?_
    have hNA := fun (k : Nat) (h : k < 16) => (⟨by omega, by omega⟩ : 3 + k ≤ 25 ∧ 3 + k < 26)
    try have hA := hNA _ ha
    try have hB := hNA _ hb16
    try have hC := hNA _ hc16
    clear hNA
    try have hga' := getV hga
    try have hgb' := getV hgb
    try have hgc' := getV hgc
    have hw : IntKind.i64.wrap (pc + 1) = pc + 1 := wrap64 (by omega) (by omega)
    obtain ⟨F, hF⟩ := skol (C := fun hp => hp ⟨0, 13, 0⟩ = .box 1 (bxP code inp pc rg M rd steps en o go no) false ∧ hp ⟨0, 13, 20⟩ = .arr gm 1 32 (rowW mem) false) (fun d hp (hc : hp ⟨0, 13, 0⟩ = .box 1 (bxP code inp pc rg M rd steps en o go no) false ∧ hp ⟨0, 13, 20⟩ = .arr gm 1 32 (rowW mem) false) => m400_17ow na nb nc at_ xb hnc hat mem gm hM hcx hrl d hp hc.1 ha hb16 hgb hc.2)
    have f1 := fun d hp hc => (hF d hp hc).1
    have f2 := fun d hp hc => (hF d hp hc).2.1
    have f3 := fun d hp hc => (hF d hp hc).2.2
    clear hF
    repeat' (first
      | ((with_reducible first | apply Wo_u | apply Wo_n | apply ex2 | apply W_sc | apply W_c | apply Wd_u | apply Wd_n | apply ex4 | apply EndQ_ret | apply EndQ_normal); (conv => lhs; simp -implicitDefEqProofs [*]) <;> exact rfl)
      | (with_reducible first | apply Wo_nil | apply W_ss | apply W_srl | apply W_rl | apply W_sblock | apply W_block | apply W_sskip | apply W_skip | apply W_sret | apply W_ret | apply W_sexit | apply W_exit | apply thenW_n | apply thenW_r | apply thenW_e | apply inB_n | apply inB_r | apply inB_e)
      | ((with_reducible apply Wo_gt); (exact rfl); ((conv => lhs; simp -implicitDefEqProofs [*]) <;> exact rfl); (conv => lhs; simp -implicitDefEqProofs [*]) <;> exact rfl)
      | ((with_reducible apply Wo_gf); (exact rfl); ((conv => lhs; simp -implicitDefEqProofs [*]) <;> exact rfl); (exact rfl))
      | ((with_reducible apply Wo_gx); (exact rfl); ((conv => lhs; simp -implicitDefEqProofs [*]) <;> exact rfl))
      | ((with_reducible apply Wo_gsT); (exact rfl); ((conv => lhs; simp -implicitDefEqProofs [*]) <;> exact rfl))
      | ((with_reducible apply Wo_gsF); (exact rfl); ((conv => lhs; simp -implicitDefEqProofs [*]) <;> exact rfl))
      | ((with_reducible apply Wd_gsT); (exact rfl); ((conv => lhs; simp -implicitDefEqProofs [*]) <;> exact rfl))
      | ((with_reducible apply Wd_gsF); (exact rfl); ((conv => lhs; simp -implicitDefEqProofs [*]) <;> exact rfl))
      | ((with_reducible first | apply W_srdl | apply W_rdl); kernel_rfl)
      | ((with_reducible apply Wd_nil); kernel_rfl)
      | ((with_reducible apply inB_o); rotate_left; exact rfl)
      | (intro h h'; try simp [*, -h] at h')
      | ((with_reducible apply Wd_gx); (exact rfl); ((conv => lhs; simp -implicitDefEqProofs [*]) <;> exact rfl)))
    all_goals exact ⟨by simp, _, _, rfl, rfl, by simp [*], fun y h0 h1 => (by have e1 : ∀ k i, y ≠ ⟨k + 1, i, 0⟩ := fun k i e => (by subst e; simp at h0); have e2 : ∀ i, y ≠ ⟨1, i, 0⟩ := fun i => e1 0 i; have e3 : ∀ i, y ≠ ⟨2, i, 0⟩ := fun i => e1 1 i; have e4 : ∀ i, y ≠ ⟨3, i, 0⟩ := fun i => e1 2 i; have e5 : ∀ i, y ≠ ⟨4, i, 0⟩ := fun i => e1 3 i; simp [*, f3 _ _ _ y h0 h1])⟩
  obtain ⟨z, hp', h1, rfl, h2⟩ := key
  exact ⟨hp', h1, h2⟩
set_option maxHeartbeats 4000000 in
theorem m363_17iw {code : List Int} {inp : ByteArray} {pc : Int} {rg : List Int} {M : AV} {rd steps en : Int} {o : Bool} {go no : Nat} (na nb nc at_ : Nat) (xa xb : Int) (hnc : nc ≤ 65535) (hat : (xb + nc) % 4294967296 = at_) (mem : List Int) (gm : Nat) (hM : M = .own ⟨0, 13, 20⟩ gm mem.length) (ho : o = true) (hml0 : mem.length ≤ 1048576) (hcx : at_ < mem.length) (hpc0 : 0 ≤ pc) (hpc1 : pc ≤ 4294967296)  (hrl : rg.length = 16) (d : Nat) (hp1 : Hp) (hx : hp1 ⟨0, 13, 0⟩ = .box 1 (bxP code inp pc rg M rd steps en o go no) false) (ha : na < 16) (hb16 : nb < 16) (hga : rg[na]? = some xa) (hgb : rg[nb]? = some xb) (hm : hp1 ⟨0, 13, 20⟩ = .arr gm 1 32 (rowW mem) false) :
    ∃ hp', (lim Tryz.prog E00 X00).hpc 2 d 363 [.ptr ⟨0, 13, 0⟩ 1 0, .agg [iv 17, iv na, iv nb, iv nc]] hp1 = some (iv 0, hp') ∧ hp' ⟨0, 13, 0⟩ = .box 1 (bxP code inp (pc + 1) rg (.own ⟨0, 13, 20⟩ gm mem.length) rd steps en true go no) false ∧ hp' ⟨0, 13, 20⟩ = .arr gm 1 32 (rowW (mem.set at_ xa)) false ∧ ∀ y : Nm, y.d = 0 → y ≠ ⟨0, 13, 0⟩ → y ≠ ⟨0, 13, 20⟩ → hp' y = hp1 y := by
  have key : ∃ z hp', (lim Tryz.prog E00 X00).hpc 2 d 363 [.ptr ⟨0, 13, 0⟩ 1 0, .agg [iv 17, iv na, iv nb, iv nc]] hp1 = some (z, hp') ∧ (z = iv 0 ∧ hp' ⟨0, 13, 0⟩ = .box 1 (bxP code inp (pc + 1) rg (.own ⟨0, 13, 20⟩ gm mem.length) rd steps en true go no) false ∧ hp' ⟨0, 13, 20⟩ = .arr gm 1 32 (rowW (mem.set at_ xa)) false ∧ ∀ y : Nm, y.d = 0 → y ≠ ⟨0, 13, 0⟩ → y ≠ ⟨0, 13, 20⟩ → hp' y = hp1 y) := by
    refine lim_hpcW (R := fun z hp' => z = iv 0 ∧ hp' ⟨0, 13, 0⟩ = .box 1 (bxP code inp (pc + 1) rg (.own ⟨0, 13, 20⟩ gm mem.length) rd steps en true go no) false ∧ hp' ⟨0, 13, 20⟩ = .arr gm 1 32 (rowW (mem.set at_ xa)) false ∧ ∀ y : Nm, y.d = 0 → y ≠ ⟨0, 13, 0⟩ → y ≠ ⟨0, 13, 20⟩ → hp' y = hp1 y) Tryz.func363 rfl rfl bodyOk_363 rfl rfl ?_
    have hNA := fun (k : Nat) (h : k < 16) => (⟨by omega, by omega⟩ : 3 + k ≤ 25 ∧ 3 + k < 26)
    try have hA := hNA _ ha
    try have hB := hNA _ hb16
    try have hC := hNA _ hc16
    clear hNA
    try have hga' := getV hga
    try have hgb' := getV hgb
    try have hgc' := getV hgc
    have hw : IntKind.i64.wrap (pc + 1) = pc + 1 := wrap64 (by omega) (by omega)
    obtain ⟨F, hF⟩ := skol (C := fun hp => hp ⟨0, 13, 0⟩ = .box 1 (bxP code inp pc rg M rd steps en o go no) false ∧ hp ⟨0, 13, 20⟩ = .arr gm 1 32 (rowW mem) false) (fun d hp (hc : hp ⟨0, 13, 0⟩ = .box 1 (bxP code inp pc rg M rd steps en o go no) false ∧ hp ⟨0, 13, 20⟩ = .arr gm 1 32 (rowW mem) false) => m400_17iw na nb nc at_ xa xb hnc hat mem gm hM ho hml0 hcx hrl d hp hc.1 ha hb16 hga hgb hc.2)
    have f1 := fun d hp hc => (hF d hp hc).1
    have f2 := fun d hp hc => (hF d hp hc).2.1
    have f4 := fun d hp hc => (hF d hp hc).2.2.1
    have f3 := fun d hp hc => (hF d hp hc).2.2.2
    clear hF
    repeat' (first
      | ((with_reducible first | apply Wo_u | apply Wo_n | apply ex2 | apply W_sc | apply W_c | apply Wd_u | apply Wd_n | apply ex4 | apply EndQ_ret | apply EndQ_normal); (conv => lhs; simp -implicitDefEqProofs [*]) <;> exact rfl)
      | (with_reducible first | apply Wo_nil | apply W_ss | apply W_srl | apply W_rl | apply W_sblock | apply W_block | apply W_sskip | apply W_skip | apply W_sret | apply W_ret | apply W_sexit | apply W_exit | apply thenW_n | apply thenW_r | apply thenW_e | apply inB_n | apply inB_r | apply inB_e)
      | ((with_reducible apply Wo_gt); (exact rfl); ((conv => lhs; simp -implicitDefEqProofs [*]) <;> exact rfl); (conv => lhs; simp -implicitDefEqProofs [*]) <;> exact rfl)
      | ((with_reducible apply Wo_gf); (exact rfl); ((conv => lhs; simp -implicitDefEqProofs [*]) <;> exact rfl); (exact rfl))
      | ((with_reducible apply Wo_gx); (exact rfl); ((conv => lhs; simp -implicitDefEqProofs [*]) <;> exact rfl))
      | ((with_reducible apply Wo_gsT); (exact rfl); ((conv => lhs; simp -implicitDefEqProofs [*]) <;> exact rfl))
      | ((with_reducible apply Wo_gsF); (exact rfl); ((conv => lhs; simp -implicitDefEqProofs [*]) <;> exact rfl))
      | ((with_reducible apply Wd_gsT); (exact rfl); ((conv => lhs; simp -implicitDefEqProofs [*]) <;> exact rfl))
      | ((with_reducible apply Wd_gsF); (exact rfl); ((conv => lhs; simp -implicitDefEqProofs [*]) <;> exact rfl))
      | ((with_reducible first | apply W_srdl | apply W_rdl); kernel_rfl)
      | ((with_reducible apply Wd_nil); kernel_rfl)
      | ((with_reducible apply inB_o); rotate_left; exact rfl)
      | (intro h h'; try simp [*, -h] at h')
      | ((with_reducible apply Wd_gx); (exact rfl); ((conv => lhs; simp -implicitDefEqProofs [*]) <;> exact rfl)))
    all_goals exact ⟨by simp, _, _, rfl, rfl, by simp [*], by simp [*], fun y h0 h1 h2 => (by have e1 : ∀ k i, y ≠ ⟨k + 1, i, 0⟩ := fun k i e => (by subst e; simp at h0); have e2 : ∀ i, y ≠ ⟨1, i, 0⟩ := fun i => e1 0 i; have e3 : ∀ i, y ≠ ⟨2, i, 0⟩ := fun i => e1 1 i; have e4 : ∀ i, y ≠ ⟨3, i, 0⟩ := fun i => e1 2 i; have e5 : ∀ i, y ≠ ⟨4, i, 0⟩ := fun i => e1 3 i; simp [*, f3 _ _ _ y h0 h1 h2])⟩
  obtain ⟨z, hp', h1, rfl, h2⟩ := key
  exact ⟨hp', h1, h2⟩
set_option maxHeartbeats 4000000 in
theorem m363_23o {code : List Int} {inp : ByteArray} {pc : Int} {rg : List Int} {M : AV} {rd steps en : Int} {o : Bool} {go no : Nat} (na nb nc : Nat) (rdn : Nat) (hrd : rd = rdn) (hr1 : inp.size ≤ rdn) (hpc0 : 0 ≤ pc) (hpc1 : pc ≤ 4294967296)  (hrl : rg.length = 16) (d : Nat) (hp1 : Hp) (hx : hp1 ⟨0, 13, 0⟩ = .box 1 (bxP code inp pc rg M rd steps en o go no) false) (ha : na < 16) :
    ∃ hp', (lim Tryz.prog E00 X00).hpc 2 d 363 [.ptr ⟨0, 13, 0⟩ 1 0, .agg [iv 23, iv na, iv nb, iv nc]] hp1 = some (iv 0, hp') ∧ hp' ⟨0, 13, 0⟩ = .box 1 (bxP code inp (pc + 1) (rg.set na 256) M rd steps en o go no) false ∧ ∀ y : Nm, y.d = 0 → y ≠ ⟨0, 13, 0⟩ → hp' y = hp1 y := by
  have key : ∃ z hp', (lim Tryz.prog E00 X00).hpc 2 d 363 [.ptr ⟨0, 13, 0⟩ 1 0, .agg [iv 23, iv na, iv nb, iv nc]] hp1 = some (z, hp') ∧ (z = iv 0 ∧ hp' ⟨0, 13, 0⟩ = .box 1 (bxP code inp (pc + 1) (rg.set na 256) M rd steps en o go no) false ∧ ∀ y : Nm, y.d = 0 → y ≠ ⟨0, 13, 0⟩ → hp' y = hp1 y) := by
    refine lim_hpcW (R := fun z hp' => z = iv 0 ∧ hp' ⟨0, 13, 0⟩ = .box 1 (bxP code inp (pc + 1) (rg.set na 256) M rd steps en o go no) false ∧ ∀ y : Nm, y.d = 0 → y ≠ ⟨0, 13, 0⟩ → hp' y = hp1 y) Tryz.func363 rfl rfl bodyOk_363 rfl rfl ?_
    have hNA := fun (k : Nat) (h : k < 16) => (⟨by omega, by omega⟩ : 3 + k ≤ 25 ∧ 3 + k < 26)
    try have hA := hNA _ ha
    try have hB := hNA _ hb16
    try have hC := hNA _ hc16
    clear hNA
    try have hga' := getV hga
    try have hgb' := getV hgb
    try have hgc' := getV hgc
    have hw : IntKind.i64.wrap (pc + 1) = pc + 1 := wrap64 (by omega) (by omega)
    obtain ⟨F, hF⟩ := skol (C := fun hp => hp ⟨0, 13, 0⟩ = .box 1 (bxP code inp pc rg M rd steps en o go no) false) (fun d hp (hc : hp ⟨0, 13, 0⟩ = .box 1 (bxP code inp pc rg M rd steps en o go no) false) => m401_o na rdn hrd hr1 hrl d hp hc ha)
    have f1 := fun d hp hc => (hF d hp hc).1
    have f2 := fun d hp hc => (hF d hp hc).2.1
    have f3 := fun d hp hc => (hF d hp hc).2.2
    clear hF
    repeat' (first
      | ((with_reducible first | apply Wo_u | apply Wo_n | apply ex2 | apply W_sc | apply W_c | apply Wd_u | apply Wd_n | apply ex4 | apply EndQ_ret | apply EndQ_normal); (conv => lhs; simp -implicitDefEqProofs [*]) <;> exact rfl)
      | (with_reducible first | apply Wo_nil | apply W_ss | apply W_srl | apply W_rl | apply W_sblock | apply W_block | apply W_sskip | apply W_skip | apply W_sret | apply W_ret | apply W_sexit | apply W_exit | apply thenW_n | apply thenW_r | apply thenW_e | apply inB_n | apply inB_r | apply inB_e)
      | ((with_reducible apply Wo_gt); (exact rfl); ((conv => lhs; simp -implicitDefEqProofs [*]) <;> exact rfl); (conv => lhs; simp -implicitDefEqProofs [*]) <;> exact rfl)
      | ((with_reducible apply Wo_gf); (exact rfl); ((conv => lhs; simp -implicitDefEqProofs [*]) <;> exact rfl); (exact rfl))
      | ((with_reducible apply Wo_gx); (exact rfl); ((conv => lhs; simp -implicitDefEqProofs [*]) <;> exact rfl))
      | ((with_reducible apply Wo_gsT); (exact rfl); ((conv => lhs; simp -implicitDefEqProofs [*]) <;> exact rfl))
      | ((with_reducible apply Wo_gsF); (exact rfl); ((conv => lhs; simp -implicitDefEqProofs [*]) <;> exact rfl))
      | ((with_reducible apply Wd_gsT); (exact rfl); ((conv => lhs; simp -implicitDefEqProofs [*]) <;> exact rfl))
      | ((with_reducible apply Wd_gsF); (exact rfl); ((conv => lhs; simp -implicitDefEqProofs [*]) <;> exact rfl))
      | ((with_reducible first | apply W_srdl | apply W_rdl); kernel_rfl)
      | ((with_reducible apply Wd_nil); kernel_rfl)
      | ((with_reducible apply inB_o); rotate_left; exact rfl)
      | (intro h h'; try simp [*, -h] at h')
      | ((with_reducible apply Wd_gx); (exact rfl); ((conv => lhs; simp -implicitDefEqProofs [*]) <;> exact rfl)))
    all_goals exact ⟨by simp, _, _, rfl, rfl, by simp [*], fun y h0 h1 => (by have e1 : ∀ k i, y ≠ ⟨k + 1, i, 0⟩ := fun k i e => (by subst e; simp at h0); have e2 : ∀ i, y ≠ ⟨1, i, 0⟩ := fun i => e1 0 i; have e3 : ∀ i, y ≠ ⟨2, i, 0⟩ := fun i => e1 1 i; have e4 : ∀ i, y ≠ ⟨3, i, 0⟩ := fun i => e1 2 i; have e5 : ∀ i, y ≠ ⟨4, i, 0⟩ := fun i => e1 3 i; simp [*, f3 _ _ _ y h0 h1])⟩
  obtain ⟨z, hp', h1, rfl, h2⟩ := key
  exact ⟨hp', h1, h2⟩
set_option maxHeartbeats 4000000 in
theorem m363_23i {code : List Int} {inp : ByteArray} {pc : Int} {rg : List Int} {M : AV} {rd steps en : Int} {o : Bool} {go no : Nat} (na nb nc : Nat) (rdn : Nat) (hrd : rd = rdn) (b : UInt8) (hbb : inp.data[rdn]? = some b) (hsz : inp.size ≤ 1048576) (hpc0 : 0 ≤ pc) (hpc1 : pc ≤ 4294967296)  (hrl : rg.length = 16) (d : Nat) (hp1 : Hp) (hx : hp1 ⟨0, 13, 0⟩ = .box 1 (bxP code inp pc rg M rd steps en o go no) false) (ha : na < 16) :
    ∃ hp', (lim Tryz.prog E00 X00).hpc 2 d 363 [.ptr ⟨0, 13, 0⟩ 1 0, .agg [iv 23, iv na, iv nb, iv nc]] hp1 = some (iv 0, hp') ∧ hp' ⟨0, 13, 0⟩ = .box 1 (bxP code inp (pc + 1) (rg.set na (b.toNat : Int)) M ((rdn : Int) + 1) steps en o go no) false ∧ ∀ y : Nm, y.d = 0 → y ≠ ⟨0, 13, 0⟩ → hp' y = hp1 y := by
  have key : ∃ z hp', (lim Tryz.prog E00 X00).hpc 2 d 363 [.ptr ⟨0, 13, 0⟩ 1 0, .agg [iv 23, iv na, iv nb, iv nc]] hp1 = some (z, hp') ∧ (z = iv 0 ∧ hp' ⟨0, 13, 0⟩ = .box 1 (bxP code inp (pc + 1) (rg.set na (b.toNat : Int)) M ((rdn : Int) + 1) steps en o go no) false ∧ ∀ y : Nm, y.d = 0 → y ≠ ⟨0, 13, 0⟩ → hp' y = hp1 y) := by
    refine lim_hpcW (R := fun z hp' => z = iv 0 ∧ hp' ⟨0, 13, 0⟩ = .box 1 (bxP code inp (pc + 1) (rg.set na (b.toNat : Int)) M ((rdn : Int) + 1) steps en o go no) false ∧ ∀ y : Nm, y.d = 0 → y ≠ ⟨0, 13, 0⟩ → hp' y = hp1 y) Tryz.func363 rfl rfl bodyOk_363 rfl rfl ?_
    have hNA := fun (k : Nat) (h : k < 16) => (⟨by omega, by omega⟩ : 3 + k ≤ 25 ∧ 3 + k < 26)
    try have hA := hNA _ ha
    try have hB := hNA _ hb16
    try have hC := hNA _ hc16
    clear hNA
    try have hga' := getV hga
    try have hgb' := getV hgb
    try have hgc' := getV hgc
    have hw : IntKind.i64.wrap (pc + 1) = pc + 1 := wrap64 (by omega) (by omega)
    obtain ⟨F, hF⟩ := skol (C := fun hp => hp ⟨0, 13, 0⟩ = .box 1 (bxP code inp pc rg M rd steps en o go no) false) (fun d hp (hc : hp ⟨0, 13, 0⟩ = .box 1 (bxP code inp pc rg M rd steps en o go no) false) => m401_i na rdn hrd b hbb hsz hrl d hp hc ha)
    have f1 := fun d hp hc => (hF d hp hc).1
    have f2 := fun d hp hc => (hF d hp hc).2.1
    have f3 := fun d hp hc => (hF d hp hc).2.2
    clear hF
    repeat' (first
      | ((with_reducible first | apply Wo_u | apply Wo_n | apply ex2 | apply W_sc | apply W_c | apply Wd_u | apply Wd_n | apply ex4 | apply EndQ_ret | apply EndQ_normal); (conv => lhs; simp -implicitDefEqProofs [*]) <;> exact rfl)
      | (with_reducible first | apply Wo_nil | apply W_ss | apply W_srl | apply W_rl | apply W_sblock | apply W_block | apply W_sskip | apply W_skip | apply W_sret | apply W_ret | apply W_sexit | apply W_exit | apply thenW_n | apply thenW_r | apply thenW_e | apply inB_n | apply inB_r | apply inB_e)
      | ((with_reducible apply Wo_gt); (exact rfl); ((conv => lhs; simp -implicitDefEqProofs [*]) <;> exact rfl); (conv => lhs; simp -implicitDefEqProofs [*]) <;> exact rfl)
      | ((with_reducible apply Wo_gf); (exact rfl); ((conv => lhs; simp -implicitDefEqProofs [*]) <;> exact rfl); (exact rfl))
      | ((with_reducible apply Wo_gx); (exact rfl); ((conv => lhs; simp -implicitDefEqProofs [*]) <;> exact rfl))
      | ((with_reducible apply Wo_gsT); (exact rfl); ((conv => lhs; simp -implicitDefEqProofs [*]) <;> exact rfl))
      | ((with_reducible apply Wo_gsF); (exact rfl); ((conv => lhs; simp -implicitDefEqProofs [*]) <;> exact rfl))
      | ((with_reducible apply Wd_gsT); (exact rfl); ((conv => lhs; simp -implicitDefEqProofs [*]) <;> exact rfl))
      | ((with_reducible apply Wd_gsF); (exact rfl); ((conv => lhs; simp -implicitDefEqProofs [*]) <;> exact rfl))
      | ((with_reducible first | apply W_srdl | apply W_rdl); kernel_rfl)
      | ((with_reducible apply Wd_nil); kernel_rfl)
      | ((with_reducible apply inB_o); rotate_left; exact rfl)
      | (intro h h'; try simp [*, -h] at h')
      | ((with_reducible apply Wd_gx); (exact rfl); ((conv => lhs; simp -implicitDefEqProofs [*]) <;> exact rfl)))
    all_goals exact ⟨by simp, _, _, rfl, rfl, by simp [*], fun y h0 h1 => (by have e1 : ∀ k i, y ≠ ⟨k + 1, i, 0⟩ := fun k i e => (by subst e; simp at h0); have e2 : ∀ i, y ≠ ⟨1, i, 0⟩ := fun i => e1 0 i; have e3 : ∀ i, y ≠ ⟨2, i, 0⟩ := fun i => e1 1 i; have e4 : ∀ i, y ≠ ⟨3, i, 0⟩ := fun i => e1 2 i; have e5 : ∀ i, y ≠ ⟨4, i, 0⟩ := fun i => e1 3 i; simp [*, f3 _ _ _ y h0 h1])⟩
  obtain ⟨z, hp', h1, rfl, h2⟩ := key
  exact ⟨hp', h1, h2⟩
set_option maxHeartbeats 4000000 in
theorem m363_opi {code : List Int} {inp : ByteArray} {pc : Int} {rg : List Int} {M : AV} {rd steps en : Int} {o : Bool} {go no : Nat} (op na nb nc : Nat) (h4 : 4 ≤ op) (h15 : op ≤ 15) (xb xc : Int) (hxb : Ma.U xb) (hxc : Ma.U xc) (v : Int) (hv : apP op xb xc = some v) (hpc0 : 0 ≤ pc) (hpc1 : pc ≤ 4294967296)  (hrl : rg.length = 16) (d : Nat) (hp1 : Hp) (hx : hp1 ⟨0, 13, 0⟩ = .box 1 (bxP code inp pc rg M rd steps en o go no) false) (ha : na < 16) (hb16 : nb < 16) (hc16 : nc < 16) (hgb : rg[nb]? = some xb) (hgc : rg[nc]? = some xc) :
    ∃ hp', (lim Tryz.prog E00 X00).hpc 2 d 363 [.ptr ⟨0, 13, 0⟩ 1 0, .agg [iv op, iv na, iv nb, iv nc]] hp1 = some (iv 0, hp') ∧ hp' ⟨0, 13, 0⟩ = .box 1 (bxP code inp (pc + 1) (rg.set na v) M rd steps en o go no) false ∧ ∀ y : Nm, y.d = 0 → y ≠ ⟨0, 13, 0⟩ → hp' y = hp1 y := by
  have key : ∃ z hp', (lim Tryz.prog E00 X00).hpc 2 d 363 [.ptr ⟨0, 13, 0⟩ 1 0, .agg [iv op, iv na, iv nb, iv nc]] hp1 = some (z, hp') ∧ (z = iv 0 ∧ hp' ⟨0, 13, 0⟩ = .box 1 (bxP code inp (pc + 1) (rg.set na v) M rd steps en o go no) false ∧ ∀ y : Nm, y.d = 0 → y ≠ ⟨0, 13, 0⟩ → hp' y = hp1 y) := by
    refine lim_hpcW (R := fun z hp' => z = iv 0 ∧ hp' ⟨0, 13, 0⟩ = .box 1 (bxP code inp (pc + 1) (rg.set na v) M rd steps en o go no) false ∧ ∀ y : Nm, y.d = 0 → y ≠ ⟨0, 13, 0⟩ → hp' y = hp1 y) Tryz.func363 rfl rfl bodyOk_363 rfl rfl ?_
    have hNA := fun (k : Nat) (h : k < 16) => (⟨by omega, by omega⟩ : 3 + k ≤ 25 ∧ 3 + k < 26)
    try have hA := hNA _ ha
    try have hB := hNA _ hb16
    try have hC := hNA _ hc16
    clear hNA
    try have hga' := getV hga
    try have hgb' := getV hgb
    try have hgc' := getV hgc
    have hw : IntKind.i64.wrap (pc + 1) = pc + 1 := wrap64 (by omega) (by omega)
    have h402 := m402 op xb xc h4 h15 hxb hxc
    rw [hv] at h402
    simp only [Option.getD_some, Option.getD_none, Option.isSome_some, Option.isSome_none, if_true, if_false, Bool.false_eq_true] at h402
    have e18 : ((op : Int) == 18) = false := by rw [beq_dec]; exact decide_eq_false (by omega)
    have e19 : ((op : Int) == 19) = false := by rw [beq_dec]; exact decide_eq_false (by omega)
    have e20 : ((op : Int) == 20) = false := by rw [beq_dec]; exact decide_eq_false (by omega)
    have e21 : ((op : Int) == 21) = false := by rw [beq_dec]; exact decide_eq_false (by omega)
    have e22 : ((op : Int) == 22) = false := by rw [beq_dec]; exact decide_eq_false (by omega)
    have e1 : ((op : Int) == 1) = false := by rw [beq_dec]; exact decide_eq_false (by omega)
    have e2 : ((op : Int) == 2) = false := by rw [beq_dec]; exact decide_eq_false (by omega)
    have e3 : ((op : Int) == 3) = false := by rw [beq_dec]; exact decide_eq_false (by omega)
    have e16 : ((op : Int) == 16) = false := by rw [beq_dec]; exact decide_eq_false (by omega)
    have e17 : ((op : Int) == 17) = false := by rw [beq_dec]; exact decide_eq_false (by omega)
    have e27 : ((op : Int) == 27) = false := by rw [beq_dec]; exact decide_eq_false (by omega)
    have e23 : ((op : Int) == 23) = false := by rw [beq_dec]; exact decide_eq_false (by omega)
    have e24 : ((op : Int) == 24) = false := by rw [beq_dec]; exact decide_eq_false (by omega)
    have e25 : ((op : Int) == 25) = false := by rw [beq_dec]; exact decide_eq_false (by omega)
    have e26 : ((op : Int) == 26) = false := by rw [beq_dec]; exact decide_eq_false (by omega)
    clear hv hxb hxc h4 h15
    repeat' (first
      | ((with_reducible first | apply Wo_u | apply Wo_n | apply ex2 | apply W_sc | apply W_c | apply Wd_u | apply Wd_n | apply ex4 | apply EndQ_ret | apply EndQ_normal); (conv => lhs; simp -implicitDefEqProofs [*]) <;> exact rfl)
      | (with_reducible first | apply Wo_nil | apply W_ss | apply W_srl | apply W_rl | apply W_sblock | apply W_block | apply W_sskip | apply W_skip | apply W_sret | apply W_ret | apply W_sexit | apply W_exit | apply thenW_n | apply thenW_r | apply thenW_e | apply inB_n | apply inB_r | apply inB_e)
      | ((with_reducible apply Wo_gt); (exact rfl); ((conv => lhs; simp -implicitDefEqProofs [*]) <;> exact rfl); (conv => lhs; simp -implicitDefEqProofs [*]) <;> exact rfl)
      | ((with_reducible apply Wo_gf); (exact rfl); ((conv => lhs; simp -implicitDefEqProofs [*]) <;> exact rfl); (exact rfl))
      | ((with_reducible apply Wo_gx); (exact rfl); ((conv => lhs; simp -implicitDefEqProofs [*]) <;> exact rfl))
      | ((with_reducible apply Wo_gsT); (exact rfl); ((conv => lhs; simp -implicitDefEqProofs [*]) <;> exact rfl))
      | ((with_reducible apply Wo_gsF); (exact rfl); ((conv => lhs; simp -implicitDefEqProofs [*]) <;> exact rfl))
      | ((with_reducible apply Wd_gsT); (exact rfl); ((conv => lhs; simp -implicitDefEqProofs [*]) <;> exact rfl))
      | ((with_reducible apply Wd_gsF); (exact rfl); ((conv => lhs; simp -implicitDefEqProofs [*]) <;> exact rfl))
      | ((with_reducible first | apply W_srdl | apply W_rdl); kernel_rfl)
      | ((with_reducible apply Wd_nil); kernel_rfl)
      | ((with_reducible apply inB_o); rotate_left; exact rfl)
      | (intro h h'; try simp [*, -h] at h')
      | ((with_reducible apply Wd_gx); (exact rfl); ((conv => lhs; simp -implicitDefEqProofs [*]) <;> exact rfl)))
    all_goals exact ⟨by simp, _, _, rfl, rfl, by simp [*], fun y h0 h1 => (by have e1 : ∀ k i, y ≠ ⟨k + 1, i, 0⟩ := fun k i e => (by subst e; simp at h0); have e2 : ∀ i, y ≠ ⟨1, i, 0⟩ := fun i => e1 0 i; have e3 : ∀ i, y ≠ ⟨2, i, 0⟩ := fun i => e1 1 i; have e4 : ∀ i, y ≠ ⟨3, i, 0⟩ := fun i => e1 2 i; have e5 : ∀ i, y ≠ ⟨4, i, 0⟩ := fun i => e1 3 i; simp [*])⟩
  obtain ⟨z, hp', h1, rfl, h2⟩ := key
  exact ⟨hp', h1, h2⟩
set_option maxHeartbeats 4000000 in
theorem m363_opo {code : List Int} {inp : ByteArray} {pc : Int} {rg : List Int} {M : AV} {rd steps en : Int} {o : Bool} {go no : Nat} (op na nb nc : Nat) (h4 : 4 ≤ op) (h15 : op ≤ 15) (xb xc : Int) (hxb : Ma.U xb) (hxc : Ma.U xc) (hv : apP op xb xc = none) (hpc0 : 0 ≤ pc) (hpc1 : pc ≤ 4294967296)  (hrl : rg.length = 16) (d : Nat) (hp1 : Hp) (hx : hp1 ⟨0, 13, 0⟩ = .box 1 (bxP code inp pc rg M rd steps en o go no) false) (ha : na < 16) (hb16 : nb < 16) (hc16 : nc < 16) (hgb : rg[nb]? = some xb) (hgc : rg[nc]? = some xc) :
    ∃ hp', (lim Tryz.prog E00 X00).hpc 2 d 363 [.ptr ⟨0, 13, 0⟩ 1 0, .agg [iv op, iv na, iv nb, iv nc]] hp1 = some (iv 2, hp') ∧ hp' ⟨0, 13, 0⟩ = .box 1 (bxP code inp pc rg M rd steps en o go no) false ∧ ∀ y : Nm, y.d = 0 → y ≠ ⟨0, 13, 0⟩ → hp' y = hp1 y := by
  have key : ∃ z hp', (lim Tryz.prog E00 X00).hpc 2 d 363 [.ptr ⟨0, 13, 0⟩ 1 0, .agg [iv op, iv na, iv nb, iv nc]] hp1 = some (z, hp') ∧ (z = iv 2 ∧ hp' ⟨0, 13, 0⟩ = .box 1 (bxP code inp pc rg M rd steps en o go no) false ∧ ∀ y : Nm, y.d = 0 → y ≠ ⟨0, 13, 0⟩ → hp' y = hp1 y) := by
    refine lim_hpcW (R := fun z hp' => z = iv 2 ∧ hp' ⟨0, 13, 0⟩ = .box 1 (bxP code inp pc rg M rd steps en o go no) false ∧ ∀ y : Nm, y.d = 0 → y ≠ ⟨0, 13, 0⟩ → hp' y = hp1 y) Tryz.func363 rfl rfl bodyOk_363 rfl rfl ?_
    have hNA := fun (k : Nat) (h : k < 16) => (⟨by omega, by omega⟩ : 3 + k ≤ 25 ∧ 3 + k < 26)
    try have hA := hNA _ ha
    try have hB := hNA _ hb16
    try have hC := hNA _ hc16
    clear hNA
    try have hga' := getV hga
    try have hgb' := getV hgb
    try have hgc' := getV hgc
    have hw : IntKind.i64.wrap (pc + 1) = pc + 1 := wrap64 (by omega) (by omega)
    have h402 := m402 op xb xc h4 h15 hxb hxc
    rw [hv] at h402
    simp only [Option.getD_some, Option.getD_none, Option.isSome_some, Option.isSome_none, if_true, if_false, Bool.false_eq_true] at h402
    have e18 : ((op : Int) == 18) = false := by rw [beq_dec]; exact decide_eq_false (by omega)
    have e19 : ((op : Int) == 19) = false := by rw [beq_dec]; exact decide_eq_false (by omega)
    have e20 : ((op : Int) == 20) = false := by rw [beq_dec]; exact decide_eq_false (by omega)
    have e21 : ((op : Int) == 21) = false := by rw [beq_dec]; exact decide_eq_false (by omega)
    have e22 : ((op : Int) == 22) = false := by rw [beq_dec]; exact decide_eq_false (by omega)
    have e1 : ((op : Int) == 1) = false := by rw [beq_dec]; exact decide_eq_false (by omega)
    have e2 : ((op : Int) == 2) = false := by rw [beq_dec]; exact decide_eq_false (by omega)
    have e3 : ((op : Int) == 3) = false := by rw [beq_dec]; exact decide_eq_false (by omega)
    have e16 : ((op : Int) == 16) = false := by rw [beq_dec]; exact decide_eq_false (by omega)
    have e17 : ((op : Int) == 17) = false := by rw [beq_dec]; exact decide_eq_false (by omega)
    have e27 : ((op : Int) == 27) = false := by rw [beq_dec]; exact decide_eq_false (by omega)
    have e23 : ((op : Int) == 23) = false := by rw [beq_dec]; exact decide_eq_false (by omega)
    have e24 : ((op : Int) == 24) = false := by rw [beq_dec]; exact decide_eq_false (by omega)
    have e25 : ((op : Int) == 25) = false := by rw [beq_dec]; exact decide_eq_false (by omega)
    have e26 : ((op : Int) == 26) = false := by rw [beq_dec]; exact decide_eq_false (by omega)
    clear hv hxb hxc h4 h15
    repeat' (first
      | ((with_reducible first | apply Wo_u | apply Wo_n | apply ex2 | apply W_sc | apply W_c | apply Wd_u | apply Wd_n | apply ex4 | apply EndQ_ret | apply EndQ_normal); (conv => lhs; simp -implicitDefEqProofs [*]) <;> exact rfl)
      | (with_reducible first | apply Wo_nil | apply W_ss | apply W_srl | apply W_rl | apply W_sblock | apply W_block | apply W_sskip | apply W_skip | apply W_sret | apply W_ret | apply W_sexit | apply W_exit | apply thenW_n | apply thenW_r | apply thenW_e | apply inB_n | apply inB_r | apply inB_e)
      | ((with_reducible apply Wo_gt); (exact rfl); ((conv => lhs; simp -implicitDefEqProofs [*]) <;> exact rfl); (conv => lhs; simp -implicitDefEqProofs [*]) <;> exact rfl)
      | ((with_reducible apply Wo_gf); (exact rfl); ((conv => lhs; simp -implicitDefEqProofs [*]) <;> exact rfl); (exact rfl))
      | ((with_reducible apply Wo_gx); (exact rfl); ((conv => lhs; simp -implicitDefEqProofs [*]) <;> exact rfl))
      | ((with_reducible apply Wo_gsT); (exact rfl); ((conv => lhs; simp -implicitDefEqProofs [*]) <;> exact rfl))
      | ((with_reducible apply Wo_gsF); (exact rfl); ((conv => lhs; simp -implicitDefEqProofs [*]) <;> exact rfl))
      | ((with_reducible apply Wd_gsT); (exact rfl); ((conv => lhs; simp -implicitDefEqProofs [*]) <;> exact rfl))
      | ((with_reducible apply Wd_gsF); (exact rfl); ((conv => lhs; simp -implicitDefEqProofs [*]) <;> exact rfl))
      | ((with_reducible first | apply W_srdl | apply W_rdl); kernel_rfl)
      | ((with_reducible apply Wd_nil); kernel_rfl)
      | ((with_reducible apply inB_o); rotate_left; exact rfl)
      | (intro h h'; try simp [*, -h] at h')
      | ((with_reducible apply Wd_gx); (exact rfl); ((conv => lhs; simp -implicitDefEqProofs [*]) <;> exact rfl)))
    all_goals exact ⟨by simp, _, _, rfl, rfl, by simp [*], fun y h0 h1 => (by have e1 : ∀ k i, y ≠ ⟨k + 1, i, 0⟩ := fun k i e => (by subst e; simp at h0); have e2 : ∀ i, y ≠ ⟨1, i, 0⟩ := fun i => e1 0 i; have e3 : ∀ i, y ≠ ⟨2, i, 0⟩ := fun i => e1 1 i; have e4 : ∀ i, y ≠ ⟨3, i, 0⟩ := fun i => e1 2 i; have e5 : ∀ i, y ≠ ⟨4, i, 0⟩ := fun i => e1 3 i; simp [*])⟩
  obtain ⟨z, hp', h1, rfl, h2⟩ := key
  exact ⟨hp', h1, h2⟩
end Go.Proofs.YtaeeffddinppeaaGreatDoor
