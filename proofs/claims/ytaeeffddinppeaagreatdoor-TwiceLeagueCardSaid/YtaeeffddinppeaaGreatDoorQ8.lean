/- Instructions, walked. -/
import Derived.Test.YtaeeffddinppeaaGreatDoorQ7
set_option linter.unusedSimpArgs false
set_option linter.unusedVariables false
namespace Go.Proofs.YtaeeffddinppeaaGreatDoor
open Go Go.Ab Go.Ma
attribute [-simp] Prog.bind getCs putCs
attribute [local simp ↓] run_bind
attribute [local simp ↓] runF_bind
attribute [local simp] run_getCsN runF_getCsN facetsC putCs_one run_putCsN
attribute [local simp] take1 bx_len bx_0 bx_1 bx_2 bx_19 bx_20 bx_21 bx_22 bx_23 bx_24 bx_25 bx_reg bs_2 bs_19 bs_20 bs_22 bs_23 bs_24 bs_25 bs_reg bx_regg bg_0 bg_1 bg_2 bg_19 bg_20 bg_21 bg_22 bg_23 bg_24 bg_25
set_option maxHeartbeats 4000000 in
theorem m363_1 {code : List Int} {inp : ByteArray} {pc : Int} {rg : List Int} {M : AV} {rd steps en : Int} {o : Bool} {go no : Nat} (na nb nc : Nat) (hnc : nc ≤ 65535) (hpc0 : 0 ≤ pc) (hpc1 : pc ≤ 4294967296)  (hrl : rg.length = 16) (d : Nat) (hp1 : Hp) (hx : hp1 ⟨0, 13, 0⟩ = .box 1 (bxP code inp pc rg M rd steps en o go no) false) (ha : na < 16) :
    ∃ hp', (lim Tryz.prog E00 X00).hpc 2 d 363 [.ptr ⟨0, 13, 0⟩ 1 0, .agg [iv 1, iv na, iv nb, iv nc]] hp1 = some (iv 0, hp') ∧ hp' ⟨0, 13, 0⟩ = .box 1 (bxP code inp (pc + 1) (rg.set na (nc : Int)) M rd steps en o go no) false ∧ ∀ y : Nm, y.d = 0 → y ≠ ⟨0, 13, 0⟩ → hp' y = hp1 y := by
  have key : ∃ z hp', (lim Tryz.prog E00 X00).hpc 2 d 363 [.ptr ⟨0, 13, 0⟩ 1 0, .agg [iv 1, iv na, iv nb, iv nc]] hp1 = some (z, hp') ∧ (z = iv 0 ∧ hp' ⟨0, 13, 0⟩ = .box 1 (bxP code inp (pc + 1) (rg.set na (nc : Int)) M rd steps en o go no) false ∧ ∀ y : Nm, y.d = 0 → y ≠ ⟨0, 13, 0⟩ → hp' y = hp1 y) := by
    refine lim_hpcW (R := fun z hp' => z = iv 0 ∧ hp' ⟨0, 13, 0⟩ = .box 1 (bxP code inp (pc + 1) (rg.set na (nc : Int)) M rd steps en o go no) false ∧ ∀ y : Nm, y.d = 0 → y ≠ ⟨0, 13, 0⟩ → hp' y = hp1 y) Tryz.func363 rfl rfl bodyOk_363 rfl rfl ?_
    have hNA := fun (k : Nat) (h : k < 16) => (⟨by omega, by omega⟩ : 3 + k ≤ 25 ∧ 3 + k < 26)
    try have hA := hNA _ ha
    try have hB := hNA _ hb16
    try have hC := hNA _ hc16
    clear hNA
    try have hga' := getV hga
    try have hgb' := getV hgb
    try have hgc' := getV hgc
    have hw : IntKind.i64.wrap (pc + 1) = pc + 1 := wrap64 (by omega) (by omega)
    have w0 : IntKind.u32.wrap (nc : Int) = nc := by rw [IntKind.wrap_u32]; omega
    repeat' (first
      | ((with_reducible first | apply Wo_u | apply Wo_n | apply ex2 | apply W_sc | apply W_c | apply Wd_u | apply Wd_n | apply ex4 | apply EndQ_ret | apply EndQ_normal); (conv => lhs; simp -implicitDefEqProofs [*]) <;> exact rfl)
      | (with_reducible first | apply Wo_nil | apply W_ss | apply W_srl | apply W_rl | apply W_sblock | apply W_block | apply W_sskip | apply W_skip | apply W_sret | apply W_ret | apply W_sexit | apply W_exit | apply thenW_n | apply thenW_r | apply thenW_e | apply inB_n | apply inB_r | apply inB_e)
      | ((with_reducible apply Wo_gt); (exact rfl); ((conv => lhs; simp -implicitDefEqProofs [*]) <;> exact rfl); (conv => lhs; simp -implicitDefEqProofs [*]) <;> exact rfl)
      | ((with_reducible apply Wo_gf); (exact rfl); ((conv => lhs; simp -implicitDefEqProofs [*]) <;> exact rfl); (exact rfl))
      | ((with_reducible apply Wo_gx); (exact rfl); ((conv => lhs; simp -implicitDefEqProofs [*]) <;> exact rfl))
      | ((with_reducible apply Wo_gsT); (exact rfl); ((conv => lhs; simp -implicitDefEqProofs [*]) <;> exact rfl))
      | ((with_reducible apply Wo_gsF); (exact rfl); ((conv => lhs; simp -implicitDefEqProofs [*]) <;> exact rfl))
      | ((with_reducible apply Wd_gsT); (exact rfl); ((conv => lhs; simp -implicitDefEqProofs [*]) <;> exact rfl))
      | ((with_reducible apply Wd_gsF); (exact rfl); ((conv => lhs; simp -implicitDefEqProofs [*]) <;> exact rfl))
      | ((with_reducible first | apply W_srdl | apply W_rdl); kernel_rfl)
      | ((with_reducible apply Wd_nil); kernel_rfl)
      | ((with_reducible apply inB_o); rotate_left; exact rfl)
      | (intro h h'; try simp [*, -h] at h')
      | ((with_reducible apply Wd_gx); (exact rfl); ((conv => lhs; simp -implicitDefEqProofs [*]) <;> exact rfl)))
    all_goals exact ⟨by simp, _, _, rfl, rfl, by simp [*], fun y h0 h1 => (by have e1 : ∀ k i, y ≠ ⟨k + 1, i, 0⟩ := fun k i e => (by subst e; simp at h0); have e2 : ∀ i, y ≠ ⟨1, i, 0⟩ := fun i => e1 0 i; have e3 : ∀ i, y ≠ ⟨2, i, 0⟩ := fun i => e1 1 i; have e4 : ∀ i, y ≠ ⟨3, i, 0⟩ := fun i => e1 2 i; have e5 : ∀ i, y ≠ ⟨4, i, 0⟩ := fun i => e1 3 i; simp [*])⟩
  obtain ⟨z, hp', h1, rfl, h2⟩ := key
  exact ⟨hp', h1, h2⟩
set_option maxHeartbeats 4000000 in
theorem m363_2 {code : List Int} {inp : ByteArray} {pc : Int} {rg : List Int} {M : AV} {rd steps en : Int} {o : Bool} {go no : Nat} (na nb nc : Nat) (xa : Int) (hxa : Ma.U xa) (hnc : nc ≤ 65535) (hpc0 : 0 ≤ pc) (hpc1 : pc ≤ 4294967296)  (hrl : rg.length = 16) (d : Nat) (hp1 : Hp) (hx : hp1 ⟨0, 13, 0⟩ = .box 1 (bxP code inp pc rg M rd steps en o go no) false) (ha : na < 16) (hga : rg[na]? = some xa) :
    ∃ hp', (lim Tryz.prog E00 X00).hpc 2 d 363 [.ptr ⟨0, 13, 0⟩ 1 0, .agg [iv 2, iv na, iv nb, iv nc]] hp1 = some (iv 0, hp') ∧ hp' ⟨0, 13, 0⟩ = .box 1 (bxP code inp (pc + 1) (rg.set na (xa % 65536 + (nc : Int) * 65536)) M rd steps en o go no) false ∧ ∀ y : Nm, y.d = 0 → y ≠ ⟨0, 13, 0⟩ → hp' y = hp1 y := by
  have key : ∃ z hp', (lim Tryz.prog E00 X00).hpc 2 d 363 [.ptr ⟨0, 13, 0⟩ 1 0, .agg [iv 2, iv na, iv nb, iv nc]] hp1 = some (z, hp') ∧ (z = iv 0 ∧ hp' ⟨0, 13, 0⟩ = .box 1 (bxP code inp (pc + 1) (rg.set na (xa % 65536 + (nc : Int) * 65536)) M rd steps en o go no) false ∧ ∀ y : Nm, y.d = 0 → y ≠ ⟨0, 13, 0⟩ → hp' y = hp1 y) := by
    refine lim_hpcW (R := fun z hp' => z = iv 0 ∧ hp' ⟨0, 13, 0⟩ = .box 1 (bxP code inp (pc + 1) (rg.set na (xa % 65536 + (nc : Int) * 65536)) M rd steps en o go no) false ∧ ∀ y : Nm, y.d = 0 → y ≠ ⟨0, 13, 0⟩ → hp' y = hp1 y) Tryz.func363 rfl rfl bodyOk_363 rfl rfl ?_
    have hNA := fun (k : Nat) (h : k < 16) => (⟨by omega, by omega⟩ : 3 + k ≤ 25 ∧ 3 + k < 26)
    try have hA := hNA _ ha
    try have hB := hNA _ hb16
    try have hC := hNA _ hc16
    clear hNA
    try have hga' := getV hga
    try have hgb' := getV hgb
    try have hgc' := getV hgc
    have hw : IntKind.i64.wrap (pc + 1) = pc + 1 := wrap64 (by omega) (by omega)
    have w0 : IntKind.u32.wrap (nc : Int) = nc := by rw [IntKind.wrap_u32]; omega
    have w1 : IntKind.u32.wrap (((xa % 2 ^ IntKind.u32.bits).toNat &&& 65535 % 2 ^ IntKind.u32.bits : Nat) : Int) = xa % 65536 := by have h := (U_and hxa).2; rw [and_form] at h; exact h
    have w2 : IntKind.u32.wrap ((nc : Int) * 2 ^ min 16 IntKind.u32.bits) = (nc : Int) * 65536 := by rw [show (2 : Int) ^ min 16 IntKind.u32.bits = 65536 from rfl, IntKind.wrap_u32]; omega
    have w3 : IntKind.u32.wrap (((xa % 65536 % 2 ^ IntKind.u32.bits).toNat ||| ((nc : Int) * 65536 % 2 ^ IntKind.u32.bits).toNat : Nat) : Int) = xa % 65536 + (nc : Int) * 65536 := by
      have h := orW_lui (x := xa % 65536) (c := nc) ⟨by omega, by omega⟩ ⟨by omega, by omega⟩
      rw [or_form] at h
      refine Eq.trans (congrArg _ h) ?_
      rw [IntKind.wrap_u32]
      omega
    clear hxa
    repeat' (first
      | ((with_reducible first | apply Wo_u | apply Wo_n | apply ex2 | apply W_sc | apply W_c | apply Wd_u | apply Wd_n | apply ex4 | apply EndQ_ret | apply EndQ_normal); (conv => lhs; simp -implicitDefEqProofs [*]) <;> exact rfl)
      | (with_reducible first | apply Wo_nil | apply W_ss | apply W_srl | apply W_rl | apply W_sblock | apply W_block | apply W_sskip | apply W_skip | apply W_sret | apply W_ret | apply W_sexit | apply W_exit | apply thenW_n | apply thenW_r | apply thenW_e | apply inB_n | apply inB_r | apply inB_e)
      | ((with_reducible apply Wo_gt); (exact rfl); ((conv => lhs; simp -implicitDefEqProofs [*]) <;> exact rfl); (conv => lhs; simp -implicitDefEqProofs [*]) <;> exact rfl)
      | ((with_reducible apply Wo_gf); (exact rfl); ((conv => lhs; simp -implicitDefEqProofs [*]) <;> exact rfl); (exact rfl))
      | ((with_reducible apply Wo_gx); (exact rfl); ((conv => lhs; simp -implicitDefEqProofs [*]) <;> exact rfl))
      | ((with_reducible apply Wo_gsT); (exact rfl); ((conv => lhs; simp -implicitDefEqProofs [*]) <;> exact rfl))
      | ((with_reducible apply Wo_gsF); (exact rfl); ((conv => lhs; simp -implicitDefEqProofs [*]) <;> exact rfl))
      | ((with_reducible apply Wd_gsT); (exact rfl); ((conv => lhs; simp -implicitDefEqProofs [*]) <;> exact rfl))
      | ((with_reducible apply Wd_gsF); (exact rfl); ((conv => lhs; simp -implicitDefEqProofs [*]) <;> exact rfl))
      | ((with_reducible first | apply W_srdl | apply W_rdl); kernel_rfl)
      | ((with_reducible apply Wd_nil); kernel_rfl)
      | ((with_reducible apply inB_o); rotate_left; exact rfl)
      | (intro h h'; try simp [*, -h] at h')
      | ((with_reducible apply Wd_gx); (exact rfl); ((conv => lhs; simp -implicitDefEqProofs [*]) <;> exact rfl)))
    all_goals exact ⟨by simp, _, _, rfl, rfl, by simp [*], fun y h0 h1 => (by have e1 : ∀ k i, y ≠ ⟨k + 1, i, 0⟩ := fun k i e => (by subst e; simp at h0); have e2 : ∀ i, y ≠ ⟨1, i, 0⟩ := fun i => e1 0 i; have e3 : ∀ i, y ≠ ⟨2, i, 0⟩ := fun i => e1 1 i; have e4 : ∀ i, y ≠ ⟨3, i, 0⟩ := fun i => e1 2 i; have e5 : ∀ i, y ≠ ⟨4, i, 0⟩ := fun i => e1 3 i; simp [*])⟩
  obtain ⟨z, hp', h1, rfl, h2⟩ := key
  exact ⟨hp', h1, h2⟩
set_option maxHeartbeats 4000000 in
theorem m363_3 {code : List Int} {inp : ByteArray} {pc : Int} {rg : List Int} {M : AV} {rd steps en : Int} {o : Bool} {go no : Nat} (na nb nc : Nat) (xb : Int) (hpc0 : 0 ≤ pc) (hpc1 : pc ≤ 4294967296)  (hrl : rg.length = 16) (d : Nat) (hp1 : Hp) (hx : hp1 ⟨0, 13, 0⟩ = .box 1 (bxP code inp pc rg M rd steps en o go no) false) (ha : na < 16) (hb16 : nb < 16) (hgb : rg[nb]? = some xb) :
    ∃ hp', (lim Tryz.prog E00 X00).hpc 2 d 363 [.ptr ⟨0, 13, 0⟩ 1 0, .agg [iv 3, iv na, iv nb, iv nc]] hp1 = some (iv 0, hp') ∧ hp' ⟨0, 13, 0⟩ = .box 1 (bxP code inp (pc + 1) (rg.set na xb) M rd steps en o go no) false ∧ ∀ y : Nm, y.d = 0 → y ≠ ⟨0, 13, 0⟩ → hp' y = hp1 y := by
  have key : ∃ z hp', (lim Tryz.prog E00 X00).hpc 2 d 363 [.ptr ⟨0, 13, 0⟩ 1 0, .agg [iv 3, iv na, iv nb, iv nc]] hp1 = some (z, hp') ∧ (z = iv 0 ∧ hp' ⟨0, 13, 0⟩ = .box 1 (bxP code inp (pc + 1) (rg.set na xb) M rd steps en o go no) false ∧ ∀ y : Nm, y.d = 0 → y ≠ ⟨0, 13, 0⟩ → hp' y = hp1 y) := by
    refine lim_hpcW (R := fun z hp' => z = iv 0 ∧ hp' ⟨0, 13, 0⟩ = .box 1 (bxP code inp (pc + 1) (rg.set na xb) M rd steps en o go no) false ∧ ∀ y : Nm, y.d = 0 → y ≠ ⟨0, 13, 0⟩ → hp' y = hp1 y) Tryz.func363 rfl rfl bodyOk_363 rfl rfl ?_
    have hNA := fun (k : Nat) (h : k < 16) => (⟨by omega, by omega⟩ : 3 + k ≤ 25 ∧ 3 + k < 26)
    try have hA := hNA _ ha
    try have hB := hNA _ hb16
    try have hC := hNA _ hc16
    clear hNA
    try have hga' := getV hga
    try have hgb' := getV hgb
    try have hgc' := getV hgc
    have hw : IntKind.i64.wrap (pc + 1) = pc + 1 := wrap64 (by omega) (by omega)
    repeat' (first
      | ((with_reducible first | apply Wo_u | apply Wo_n | apply ex2 | apply W_sc | apply W_c | apply Wd_u | apply Wd_n | apply ex4 | apply EndQ_ret | apply EndQ_normal); (conv => lhs; simp -implicitDefEqProofs [*]) <;> exact rfl)
      | (with_reducible first | apply Wo_nil | apply W_ss | apply W_srl | apply W_rl | apply W_sblock | apply W_block | apply W_sskip | apply W_skip | apply W_sret | apply W_ret | apply W_sexit | apply W_exit | apply thenW_n | apply thenW_r | apply thenW_e | apply inB_n | apply inB_r | apply inB_e)
      | ((with_reducible apply Wo_gt); (exact rfl); ((conv => lhs; simp -implicitDefEqProofs [*]) <;> exact rfl); (conv => lhs; simp -implicitDefEqProofs [*]) <;> exact rfl)
      | ((with_reducible apply Wo_gf); (exact rfl); ((conv => lhs; simp -implicitDefEqProofs [*]) <;> exact rfl); (exact rfl))
      | ((with_reducible apply Wo_gx); (exact rfl); ((conv => lhs; simp -implicitDefEqProofs [*]) <;> exact rfl))
      | ((with_reducible apply Wo_gsT); (exact rfl); ((conv => lhs; simp -implicitDefEqProofs [*]) <;> exact rfl))
      | ((with_reducible apply Wo_gsF); (exact rfl); ((conv => lhs; simp -implicitDefEqProofs [*]) <;> exact rfl))
      | ((with_reducible apply Wd_gsT); (exact rfl); ((conv => lhs; simp -implicitDefEqProofs [*]) <;> exact rfl))
      | ((with_reducible apply Wd_gsF); (exact rfl); ((conv => lhs; simp -implicitDefEqProofs [*]) <;> exact rfl))
      | ((with_reducible first | apply W_srdl | apply W_rdl); kernel_rfl)
      | ((with_reducible apply Wd_nil); kernel_rfl)
      | ((with_reducible apply inB_o); rotate_left; exact rfl)
      | (intro h h'; try simp [*, -h] at h')
      | ((with_reducible apply Wd_gx); (exact rfl); ((conv => lhs; simp -implicitDefEqProofs [*]) <;> exact rfl)))
    all_goals exact ⟨by simp, _, _, rfl, rfl, by simp [*], fun y h0 h1 => (by have e1 : ∀ k i, y ≠ ⟨k + 1, i, 0⟩ := fun k i e => (by subst e; simp at h0); have e2 : ∀ i, y ≠ ⟨1, i, 0⟩ := fun i => e1 0 i; have e3 : ∀ i, y ≠ ⟨2, i, 0⟩ := fun i => e1 1 i; have e4 : ∀ i, y ≠ ⟨3, i, 0⟩ := fun i => e1 2 i; have e5 : ∀ i, y ≠ ⟨4, i, 0⟩ := fun i => e1 3 i; simp [*])⟩
  obtain ⟨z, hp', h1, rfl, h2⟩ := key
  exact ⟨hp', h1, h2⟩
set_option maxHeartbeats 4000000 in
theorem m363_26 {code : List Int} {inp : ByteArray} {pc : Int} {rg : List Int} {M : AV} {rd steps en : Int} {o : Bool} {go no : Nat} (na nb nc : Nat) (hpc0 : 0 ≤ pc) (hpc1 : pc ≤ 4294967296)  (hrl : rg.length = 16) (d : Nat) (hp1 : Hp) (hx : hp1 ⟨0, 13, 0⟩ = .box 1 (bxP code inp pc rg M rd steps en o go no) false)  :
    ∃ hp', (lim Tryz.prog E00 X00).hpc 2 d 363 [.ptr ⟨0, 13, 0⟩ 1 0, .agg [iv 26, iv na, iv nb, iv nc]] hp1 = some (iv 1, hp') ∧ hp' ⟨0, 13, 0⟩ = .box 1 (bxP code inp pc rg M rd steps en o go no) false ∧ ∀ y : Nm, y.d = 0 → y ≠ ⟨0, 13, 0⟩ → hp' y = hp1 y := by
  have key : ∃ z hp', (lim Tryz.prog E00 X00).hpc 2 d 363 [.ptr ⟨0, 13, 0⟩ 1 0, .agg [iv 26, iv na, iv nb, iv nc]] hp1 = some (z, hp') ∧ (z = iv 1 ∧ hp' ⟨0, 13, 0⟩ = .box 1 (bxP code inp pc rg M rd steps en o go no) false ∧ ∀ y : Nm, y.d = 0 → y ≠ ⟨0, 13, 0⟩ → hp' y = hp1 y) := by
    refine lim_hpcW (R := fun z hp' => z = iv 1 ∧ hp' ⟨0, 13, 0⟩ = .box 1 (bxP code inp pc rg M rd steps en o go no) false ∧ ∀ y : Nm, y.d = 0 → y ≠ ⟨0, 13, 0⟩ → hp' y = hp1 y) Tryz.func363 rfl rfl bodyOk_363 rfl rfl ?_
    have hNA := fun (k : Nat) (h : k < 16) => (⟨by omega, by omega⟩ : 3 + k ≤ 25 ∧ 3 + k < 26)
    try have hA := hNA _ ha
    try have hB := hNA _ hb16
    try have hC := hNA _ hc16
    clear hNA
    try have hga' := getV hga
    try have hgb' := getV hgb
    try have hgc' := getV hgc
    repeat' (first
      | ((with_reducible first | apply Wo_u | apply Wo_n | apply ex2 | apply W_sc | apply W_c | apply Wd_u | apply Wd_n | apply ex4 | apply EndQ_ret | apply EndQ_normal); (conv => lhs; simp -implicitDefEqProofs [*]) <;> exact rfl)
      | (with_reducible first | apply Wo_nil | apply W_ss | apply W_srl | apply W_rl | apply W_sblock | apply W_block | apply W_sskip | apply W_skip | apply W_sret | apply W_ret | apply W_sexit | apply W_exit | apply thenW_n | apply thenW_r | apply thenW_e | apply inB_n | apply inB_r | apply inB_e)
      | ((with_reducible apply Wo_gt); (exact rfl); ((conv => lhs; simp -implicitDefEqProofs [*]) <;> exact rfl); (conv => lhs; simp -implicitDefEqProofs [*]) <;> exact rfl)
      | ((with_reducible apply Wo_gf); (exact rfl); ((conv => lhs; simp -implicitDefEqProofs [*]) <;> exact rfl); (exact rfl))
      | ((with_reducible apply Wo_gx); (exact rfl); ((conv => lhs; simp -implicitDefEqProofs [*]) <;> exact rfl))
      | ((with_reducible apply Wo_gsT); (exact rfl); ((conv => lhs; simp -implicitDefEqProofs [*]) <;> exact rfl))
      | ((with_reducible apply Wo_gsF); (exact rfl); ((conv => lhs; simp -implicitDefEqProofs [*]) <;> exact rfl))
      | ((with_reducible apply Wd_gsT); (exact rfl); ((conv => lhs; simp -implicitDefEqProofs [*]) <;> exact rfl))
      | ((with_reducible apply Wd_gsF); (exact rfl); ((conv => lhs; simp -implicitDefEqProofs [*]) <;> exact rfl))
      | ((with_reducible first | apply W_srdl | apply W_rdl); kernel_rfl)
      | ((with_reducible apply Wd_nil); kernel_rfl)
      | ((with_reducible apply inB_o); rotate_left; exact rfl)
      | (intro h h'; try simp [*, -h] at h')
      | ((with_reducible apply Wd_gx); (exact rfl); ((conv => lhs; simp -implicitDefEqProofs [*]) <;> exact rfl)))
    all_goals exact ⟨by simp, _, _, rfl, rfl, by simp [*], fun y h0 h1 => (by have e1 : ∀ k i, y ≠ ⟨k + 1, i, 0⟩ := fun k i e => (by subst e; simp at h0); have e2 : ∀ i, y ≠ ⟨1, i, 0⟩ := fun i => e1 0 i; have e3 : ∀ i, y ≠ ⟨2, i, 0⟩ := fun i => e1 1 i; have e4 : ∀ i, y ≠ ⟨3, i, 0⟩ := fun i => e1 2 i; have e5 : ∀ i, y ≠ ⟨4, i, 0⟩ := fun i => e1 3 i; simp [*])⟩
  obtain ⟨z, hp', h1, rfl, h2⟩ := key
  exact ⟨hp', h1, h2⟩
set_option maxHeartbeats 4000000 in
theorem m363_25i {code : List Int} {inp : ByteArray} {pc : Int} {rg : List Int} {M : AV} {rd steps en : Int} {o : Bool} {go no : Nat} (na nb nc : Nat) (xa : Int) (hnc : nc ≤ 65535) (hcx : (xa < (nc : Int))) (hpc0 : 0 ≤ pc) (hpc1 : pc ≤ 4294967296)  (hrl : rg.length = 16) (d : Nat) (hp1 : Hp) (hx : hp1 ⟨0, 13, 0⟩ = .box 1 (bxP code inp pc rg M rd steps en o go no) false) (ha : na < 16) (hga : rg[na]? = some xa) :
    ∃ hp', (lim Tryz.prog E00 X00).hpc 2 d 363 [.ptr ⟨0, 13, 0⟩ 1 0, .agg [iv 25, iv na, iv nb, iv nc]] hp1 = some (iv 0, hp') ∧ hp' ⟨0, 13, 0⟩ = .box 1 (bxP code inp (pc + 1) rg M rd steps en o go no) false ∧ ∀ y : Nm, y.d = 0 → y ≠ ⟨0, 13, 0⟩ → hp' y = hp1 y := by
  have key : ∃ z hp', (lim Tryz.prog E00 X00).hpc 2 d 363 [.ptr ⟨0, 13, 0⟩ 1 0, .agg [iv 25, iv na, iv nb, iv nc]] hp1 = some (z, hp') ∧ (z = iv 0 ∧ hp' ⟨0, 13, 0⟩ = .box 1 (bxP code inp (pc + 1) rg M rd steps en o go no) false ∧ ∀ y : Nm, y.d = 0 → y ≠ ⟨0, 13, 0⟩ → hp' y = hp1 y) := by
    refine lim_hpcW (R := fun z hp' => z = iv 0 ∧ hp' ⟨0, 13, 0⟩ = .box 1 (bxP code inp (pc + 1) rg M rd steps en o go no) false ∧ ∀ y : Nm, y.d = 0 → y ≠ ⟨0, 13, 0⟩ → hp' y = hp1 y) Tryz.func363 rfl rfl bodyOk_363 rfl rfl ?_
    have hNA := fun (k : Nat) (h : k < 16) => (⟨by omega, by omega⟩ : 3 + k ≤ 25 ∧ 3 + k < 26)
    try have hA := hNA _ ha
    try have hB := hNA _ hb16
    try have hC := hNA _ hc16
    clear hNA
    try have hga' := getV hga
    try have hgb' := getV hgb
    try have hgc' := getV hgc
    have hw : IntKind.i64.wrap (pc + 1) = pc + 1 := wrap64 (by omega) (by omega)
    have w0 : IntKind.u32.wrap (nc : Int) = nc := by rw [IntKind.wrap_u32]; omega
    have q1 : ¬ (nc : Int) ≤ xa := by omega
    repeat' (first
      | ((with_reducible first | apply Wo_u | apply Wo_n | apply ex2 | apply W_sc | apply W_c | apply Wd_u | apply Wd_n | apply ex4 | apply EndQ_ret | apply EndQ_normal); (conv => lhs; simp -implicitDefEqProofs [*]) <;> exact rfl)
      | (with_reducible first | apply Wo_nil | apply W_ss | apply W_srl | apply W_rl | apply W_sblock | apply W_block | apply W_sskip | apply W_skip | apply W_sret | apply W_ret | apply W_sexit | apply W_exit | apply thenW_n | apply thenW_r | apply thenW_e | apply inB_n | apply inB_r | apply inB_e)
      | ((with_reducible apply Wo_gt); (exact rfl); ((conv => lhs; simp -implicitDefEqProofs [*]) <;> exact rfl); (conv => lhs; simp -implicitDefEqProofs [*]) <;> exact rfl)
      | ((with_reducible apply Wo_gf); (exact rfl); ((conv => lhs; simp -implicitDefEqProofs [*]) <;> exact rfl); (exact rfl))
      | ((with_reducible apply Wo_gx); (exact rfl); ((conv => lhs; simp -implicitDefEqProofs [*]) <;> exact rfl))
      | ((with_reducible apply Wo_gsT); (exact rfl); ((conv => lhs; simp -implicitDefEqProofs [*]) <;> exact rfl))
      | ((with_reducible apply Wo_gsF); (exact rfl); ((conv => lhs; simp -implicitDefEqProofs [*]) <;> exact rfl))
      | ((with_reducible apply Wd_gsT); (exact rfl); ((conv => lhs; simp -implicitDefEqProofs [*]) <;> exact rfl))
      | ((with_reducible apply Wd_gsF); (exact rfl); ((conv => lhs; simp -implicitDefEqProofs [*]) <;> exact rfl))
      | ((with_reducible first | apply W_srdl | apply W_rdl); kernel_rfl)
      | ((with_reducible apply Wd_nil); kernel_rfl)
      | ((with_reducible apply inB_o); rotate_left; exact rfl)
      | (intro h h'; try simp [*, -h] at h')
      | ((with_reducible apply Wd_gx); (exact rfl); ((conv => lhs; simp -implicitDefEqProofs [*]) <;> exact rfl)))
    all_goals exact ⟨by simp, _, _, rfl, rfl, by simp [*], fun y h0 h1 => (by have e1 : ∀ k i, y ≠ ⟨k + 1, i, 0⟩ := fun k i e => (by subst e; simp at h0); have e2 : ∀ i, y ≠ ⟨1, i, 0⟩ := fun i => e1 0 i; have e3 : ∀ i, y ≠ ⟨2, i, 0⟩ := fun i => e1 1 i; have e4 : ∀ i, y ≠ ⟨3, i, 0⟩ := fun i => e1 2 i; have e5 : ∀ i, y ≠ ⟨4, i, 0⟩ := fun i => e1 3 i; simp [*])⟩
  obtain ⟨z, hp', h1, rfl, h2⟩ := key
  exact ⟨hp', h1, h2⟩
set_option maxHeartbeats 4000000 in
theorem m363_25o {code : List Int} {inp : ByteArray} {pc : Int} {rg : List Int} {M : AV} {rd steps en : Int} {o : Bool} {go no : Nat} (na nb nc : Nat) (xa : Int) (hnc : nc ≤ 65535) (hcx : ((nc : Int) ≤ xa)) (hpc0 : 0 ≤ pc) (hpc1 : pc ≤ 4294967296)  (hrl : rg.length = 16) (d : Nat) (hp1 : Hp) (hx : hp1 ⟨0, 13, 0⟩ = .box 1 (bxP code inp pc rg M rd steps en o go no) false) (ha : na < 16) (hga : rg[na]? = some xa) :
    ∃ hp', (lim Tryz.prog E00 X00).hpc 2 d 363 [.ptr ⟨0, 13, 0⟩ 1 0, .agg [iv 25, iv na, iv nb, iv nc]] hp1 = some (iv 3, hp') ∧ hp' ⟨0, 13, 0⟩ = .box 1 (bxP code inp pc rg M rd steps en o go no) false ∧ ∀ y : Nm, y.d = 0 → y ≠ ⟨0, 13, 0⟩ → hp' y = hp1 y := by
  have key : ∃ z hp', (lim Tryz.prog E00 X00).hpc 2 d 363 [.ptr ⟨0, 13, 0⟩ 1 0, .agg [iv 25, iv na, iv nb, iv nc]] hp1 = some (z, hp') ∧ (z = iv 3 ∧ hp' ⟨0, 13, 0⟩ = .box 1 (bxP code inp pc rg M rd steps en o go no) false ∧ ∀ y : Nm, y.d = 0 → y ≠ ⟨0, 13, 0⟩ → hp' y = hp1 y) := by
    refine lim_hpcW (R := fun z hp' => z = iv 3 ∧ hp' ⟨0, 13, 0⟩ = .box 1 (bxP code inp pc rg M rd steps en o go no) false ∧ ∀ y : Nm, y.d = 0 → y ≠ ⟨0, 13, 0⟩ → hp' y = hp1 y) Tryz.func363 rfl rfl bodyOk_363 rfl rfl ?_
    have hNA := fun (k : Nat) (h : k < 16) => (⟨by omega, by omega⟩ : 3 + k ≤ 25 ∧ 3 + k < 26)
    try have hA := hNA _ ha
    try have hB := hNA _ hb16
    try have hC := hNA _ hc16
    clear hNA
    try have hga' := getV hga
    try have hgb' := getV hgb
    try have hgc' := getV hgc
    have hw : IntKind.i64.wrap (pc + 1) = pc + 1 := wrap64 (by omega) (by omega)
    have w0 : IntKind.u32.wrap (nc : Int) = nc := by rw [IntKind.wrap_u32]; omega
    repeat' (first
      | ((with_reducible first | apply Wo_u | apply Wo_n | apply ex2 | apply W_sc | apply W_c | apply Wd_u | apply Wd_n | apply ex4 | apply EndQ_ret | apply EndQ_normal); (conv => lhs; simp -implicitDefEqProofs [*]) <;> exact rfl)
      | (with_reducible first | apply Wo_nil | apply W_ss | apply W_srl | apply W_rl | apply W_sblock | apply W_block | apply W_sskip | apply W_skip | apply W_sret | apply W_ret | apply W_sexit | apply W_exit | apply thenW_n | apply thenW_r | apply thenW_e | apply inB_n | apply inB_r | apply inB_e)
      | ((with_reducible apply Wo_gt); (exact rfl); ((conv => lhs; simp -implicitDefEqProofs [*]) <;> exact rfl); (conv => lhs; simp -implicitDefEqProofs [*]) <;> exact rfl)
      | ((with_reducible apply Wo_gf); (exact rfl); ((conv => lhs; simp -implicitDefEqProofs [*]) <;> exact rfl); (exact rfl))
      | ((with_reducible apply Wo_gx); (exact rfl); ((conv => lhs; simp -implicitDefEqProofs [*]) <;> exact rfl))
      | ((with_reducible apply Wo_gsT); (exact rfl); ((conv => lhs; simp -implicitDefEqProofs [*]) <;> exact rfl))
      | ((with_reducible apply Wo_gsF); (exact rfl); ((conv => lhs; simp -implicitDefEqProofs [*]) <;> exact rfl))
      | ((with_reducible apply Wd_gsT); (exact rfl); ((conv => lhs; simp -implicitDefEqProofs [*]) <;> exact rfl))
      | ((with_reducible apply Wd_gsF); (exact rfl); ((conv => lhs; simp -implicitDefEqProofs [*]) <;> exact rfl))
      | ((with_reducible first | apply W_srdl | apply W_rdl); kernel_rfl)
      | ((with_reducible apply Wd_nil); kernel_rfl)
      | ((with_reducible apply inB_o); rotate_left; exact rfl)
      | (intro h h'; try simp [*, -h] at h')
      | ((with_reducible apply Wd_gx); (exact rfl); ((conv => lhs; simp -implicitDefEqProofs [*]) <;> exact rfl)))
    all_goals exact ⟨by simp, _, _, rfl, rfl, by simp [*], fun y h0 h1 => (by have e1 : ∀ k i, y ≠ ⟨k + 1, i, 0⟩ := fun k i e => (by subst e; simp at h0); have e2 : ∀ i, y ≠ ⟨1, i, 0⟩ := fun i => e1 0 i; have e3 : ∀ i, y ≠ ⟨2, i, 0⟩ := fun i => e1 1 i; have e4 : ∀ i, y ≠ ⟨3, i, 0⟩ := fun i => e1 2 i; have e5 : ∀ i, y ≠ ⟨4, i, 0⟩ := fun i => e1 3 i; simp [*])⟩
  obtain ⟨z, hp', h1, rfl, h2⟩ := key
  exact ⟨hp', h1, h2⟩
end Go.Proofs.YtaeeffddinppeaaGreatDoor

namespace Go.Proofs.YtaeeffddinppeaaGreatDoor
open Go Go.Ab Go.Ma
attribute [-simp] Prog.bind getCs putCs
attribute [local simp ↓] run_bind
attribute [local simp ↓] runF_bind
attribute [local simp] run_getCsN runF_getCsN facetsC putCs_one run_putCsN
attribute [local simp] take1 bx_len bx_0 bx_1 bx_2 bx_19 bx_20 bx_21 bx_22 bx_23 bx_24 bx_25 bx_reg bs_2 bs_19 bs_20 bs_22 bs_23 bs_24 bs_25 bs_reg bx_regg bg_0 bg_1 bg_2 bg_19 bg_20 bg_21 bg_22 bg_23 bg_24 bg_25
theorem empty_size : (⟨#[]⟩ : ByteArray).size = 0 := rfl
attribute [local simp] empty_size
def snocB (l : List Int) (x : Int) : List (List AV) := rowB (l ++ [x])
set_option maxHeartbeats 4000000 in
theorem m363_24o {code : List Int} {inp : ByteArray} {pc : Int} {rg : List Int} {M : AV} {rd steps en : Int} {o : Bool} {go no : Nat} (na nb nc : Nat) (hol : 65536 ≤ no) (hol2 : no ≤ 1000000) (out : List Int) (hno : no = out.length) (hpc0 : 0 ≤ pc) (hpc1 : pc ≤ 4294967296)  (hrl : rg.length = 16) (d : Nat) (hp1 : Hp) (hx : hp1 ⟨0, 13, 0⟩ = .box 1 (bxP code inp pc rg M rd steps en o go no) false) (ha : na < 16) (hmo : hp1 ⟨0, 13, 26⟩ = .arr go 1 5 (rowB out) false) :
    ∃ hp', (lim Tryz.prog E00 X00).hpc 2 d 363 [.ptr ⟨0, 13, 0⟩ 1 0, .agg [iv 24, iv na, iv nb, iv nc]] hp1 = some (iv 4, hp') ∧ hp' ⟨0, 13, 0⟩ = .box 1 (bxP code inp pc rg M rd steps en o go no) false ∧ ∀ y : Nm, y.d = 0 → y ≠ ⟨0, 13, 0⟩ → hp' y = hp1 y := by
  have key : ∃ z hp', (lim Tryz.prog E00 X00).hpc 2 d 363 [.ptr ⟨0, 13, 0⟩ 1 0, .agg [iv 24, iv na, iv nb, iv nc]] hp1 = some (z, hp') ∧ (z = iv 4 ∧ hp' ⟨0, 13, 0⟩ = .box 1 (bxP code inp pc rg M rd steps en o go no) false ∧ ∀ y : Nm, y.d = 0 → y ≠ ⟨0, 13, 0⟩ → hp' y = hp1 y) := by
    refine lim_hpcW (R := fun z hp' => z = iv 4 ∧ hp' ⟨0, 13, 0⟩ = .box 1 (bxP code inp pc rg M rd steps en o go no) false ∧ ∀ y : Nm, y.d = 0 → y ≠ ⟨0, 13, 0⟩ → hp' y = hp1 y) Tryz.func363 rfl rfl bodyOk_363 rfl rfl ?_
    have hNA := fun (k : Nat) (h : k < 16) => (⟨by omega, by omega⟩ : 3 + k ≤ 25 ∧ 3 + k < 26)
    try have hA := hNA _ ha
    try have hB := hNA _ hb16
    try have hC := hNA _ hc16
    clear hNA
    try have hga' := getV hga
    try have hgb' := getV hgb
    try have hgc' := getV hgc
    have hw : IntKind.i64.wrap (pc + 1) = pc + 1 := wrap64 (by omega) (by omega)
    subst hno
    have v0 : (65536 : Int) ≤ out.length := by omega
    have v1 : IntKind.i64.wrap (out.length : Int) = out.length := wrap64 (by omega) (by omega)
    repeat' (first
      | ((with_reducible first | apply Wo_u | apply Wo_n | apply ex2 | apply W_sc | apply W_c | apply Wd_u | apply Wd_n | apply ex4 | apply EndQ_ret | apply EndQ_normal); (conv => lhs; simp -implicitDefEqProofs [*]) <;> exact rfl)
      | (with_reducible first | apply Wo_nil | apply W_ss | apply W_srl | apply W_rl | apply W_sblock | apply W_block | apply W_sskip | apply W_skip | apply W_sret | apply W_ret | apply W_sexit | apply W_exit | apply thenW_n | apply thenW_r | apply thenW_e | apply inB_n | apply inB_r | apply inB_e)
      | ((with_reducible apply Wo_gt); (exact rfl); ((conv => lhs; simp -implicitDefEqProofs [*]) <;> exact rfl); (conv => lhs; simp -implicitDefEqProofs [*]) <;> exact rfl)
      | ((with_reducible apply Wo_gf); (exact rfl); ((conv => lhs; simp -implicitDefEqProofs [*]) <;> exact rfl); (exact rfl))
      | ((with_reducible apply Wo_gx); (exact rfl); ((conv => lhs; simp -implicitDefEqProofs [*]) <;> exact rfl))
      | ((with_reducible apply Wo_gsT); (exact rfl); ((conv => lhs; simp -implicitDefEqProofs [*]) <;> exact rfl))
      | ((with_reducible apply Wo_gsF); (exact rfl); ((conv => lhs; simp -implicitDefEqProofs [*]) <;> exact rfl))
      | ((with_reducible apply Wd_gsT); (exact rfl); ((conv => lhs; simp -implicitDefEqProofs [*]) <;> exact rfl))
      | ((with_reducible apply Wd_gsF); (exact rfl); ((conv => lhs; simp -implicitDefEqProofs [*]) <;> exact rfl))
      | ((with_reducible first | apply W_srdl | apply W_rdl); kernel_rfl)
      | ((with_reducible apply Wd_nil); kernel_rfl)
      | ((with_reducible apply inB_o); rotate_left; exact rfl)
      | (intro h h'; try simp [*, -h] at h')
      | ((with_reducible apply Wd_gx); (exact rfl); ((conv => lhs; simp -implicitDefEqProofs [*]) <;> exact rfl)))
    all_goals exact ⟨by simp, _, _, rfl, rfl, by simp [*], fun y h0 h1 => (by have e1 : ∀ k i, y ≠ ⟨k + 1, i, 0⟩ := fun k i e => (by subst e; simp at h0); have e2 : ∀ i, y ≠ ⟨1, i, 0⟩ := fun i => e1 0 i; have e3 : ∀ i, y ≠ ⟨2, i, 0⟩ := fun i => e1 1 i; have e4 : ∀ i, y ≠ ⟨3, i, 0⟩ := fun i => e1 2 i; have e5 : ∀ i, y ≠ ⟨4, i, 0⟩ := fun i => e1 3 i; simp [*])⟩
  obtain ⟨z, hp', h1, rfl, h2⟩ := key
  exact ⟨hp', h1, h2⟩
set_option maxHeartbeats 4000000 in
theorem m363_24i {code : List Int} {inp : ByteArray} {pc : Int} {rg : List Int} {M : AV} {rd steps en : Int} {o : Bool} {go no : Nat} (na nb nc : Nat) (xa : Int) (hxa : Ma.U xa) (hol : no < 65536) (out : List Int) (hno : no = out.length) (hpc0 : 0 ≤ pc) (hpc1 : pc ≤ 4294967296)  (hrl : rg.length = 16) (d : Nat) (hp1 : Hp) (hx : hp1 ⟨0, 13, 0⟩ = .box 1 (bxP code inp pc rg M rd steps en o go no) false) (ha : na < 16) (hga : rg[na]? = some xa) (hmo : hp1 ⟨0, 13, 26⟩ = .arr go 1 5 (rowB out) false) :
    ∃ hp', (lim Tryz.prog E00 X00).hpc 2 d 363 [.ptr ⟨0, 13, 0⟩ 1 0, .agg [iv 24, iv na, iv nb, iv nc]] hp1 = some (iv 0, hp') ∧ hp' ⟨0, 13, 0⟩ = .box 1 (bxP code inp (pc + 1) rg M rd steps en o (go + 1) (no + 1)) false ∧ hp' ⟨0, 13, 26⟩ = .arr (go + 1) 1 5 (snocB out (xa % 256)) false ∧ ∀ y : Nm, y.d = 0 → y ≠ ⟨0, 13, 0⟩ → y ≠ ⟨0, 13, 26⟩ → hp' y = hp1 y := by
  have key : ∃ z hp', (lim Tryz.prog E00 X00).hpc 2 d 363 [.ptr ⟨0, 13, 0⟩ 1 0, .agg [iv 24, iv na, iv nb, iv nc]] hp1 = some (z, hp') ∧ (z = iv 0 ∧ hp' ⟨0, 13, 0⟩ = .box 1 (bxP code inp (pc + 1) rg M rd steps en o (go + 1) (no + 1)) false ∧ hp' ⟨0, 13, 26⟩ = .arr (go + 1) 1 5 (snocB out (xa % 256)) false ∧ ∀ y : Nm, y.d = 0 → y ≠ ⟨0, 13, 0⟩ → y ≠ ⟨0, 13, 26⟩ → hp' y = hp1 y) := by
    refine lim_hpcW (R := fun z hp' => z = iv 0 ∧ hp' ⟨0, 13, 0⟩ = .box 1 (bxP code inp (pc + 1) rg M rd steps en o (go + 1) (no + 1)) false ∧ hp' ⟨0, 13, 26⟩ = .arr (go + 1) 1 5 (snocB out (xa % 256)) false ∧ ∀ y : Nm, y.d = 0 → y ≠ ⟨0, 13, 0⟩ → y ≠ ⟨0, 13, 26⟩ → hp' y = hp1 y) Tryz.func363 rfl rfl bodyOk_363 rfl rfl ?_
    have hNA := fun (k : Nat) (h : k < 16) => (⟨by omega, by omega⟩ : 3 + k ≤ 25 ∧ 3 + k < 26)
    try have hA := hNA _ ha
    try have hB := hNA _ hb16
    try have hC := hNA _ hc16
    clear hNA
    try have hga' := getV hga
    try have hgb' := getV hgb
    try have hgc' := getV hgc
    have hw : IntKind.i64.wrap (pc + 1) = pc + 1 := wrap64 (by omega) (by omega)
    subst hno
    have v0 : ¬ (65536 : Int) ≤ out.length := by omega
    have v1 : IntKind.i64.wrap (out.length : Int) = out.length := wrap64 (by omega) (by omega)
    have u2 : IntKind.u8.wrap xa = xa % 256 := by rw [IntKind.wrap_u8]
    have u4 : out.length + 1 ≤ 140737488355328 := by omega
    have u5 : out.length ≤ 9223372036854775806 := by omega
    have u6 : rowB out ++ [[.sc (.int .u8 (xa % 256))]] = snocB out (xa % 256) := by simp [snocB]
    have u7 : (rowB out).length = out.length := List.length_map ..
    clear hxa
    generalize snocB out (xa % 256) = SB at *
    generalize rowB out = RB at *
    repeat' (first
      | ((with_reducible first | apply Wo_u | apply Wo_n | apply ex2 | apply W_sc | apply W_c | apply Wd_u | apply Wd_n | apply ex4 | apply EndQ_ret | apply EndQ_normal); (conv => lhs; simp -implicitDefEqProofs [*]) <;> exact rfl)
      | (with_reducible first | apply Wo_nil | apply W_ss | apply W_srl | apply W_rl | apply W_sblock | apply W_block | apply W_sskip | apply W_skip | apply W_sret | apply W_ret | apply W_sexit | apply W_exit | apply thenW_n | apply thenW_r | apply thenW_e | apply inB_n | apply inB_r | apply inB_e)
      | ((with_reducible apply Wo_gt); (exact rfl); ((conv => lhs; simp -implicitDefEqProofs [*]) <;> exact rfl); (conv => lhs; simp -implicitDefEqProofs [*]) <;> exact rfl)
      | ((with_reducible apply Wo_gf); (exact rfl); ((conv => lhs; simp -implicitDefEqProofs [*]) <;> exact rfl); (exact rfl))
      | ((with_reducible apply Wo_gx); (exact rfl); ((conv => lhs; simp -implicitDefEqProofs [*]) <;> exact rfl))
      | ((with_reducible apply Wo_gsT); (exact rfl); ((conv => lhs; simp -implicitDefEqProofs [*]) <;> exact rfl))
      | ((with_reducible apply Wo_gsF); (exact rfl); ((conv => lhs; simp -implicitDefEqProofs [*]) <;> exact rfl))
      | ((with_reducible apply Wd_gsT); (exact rfl); ((conv => lhs; simp -implicitDefEqProofs [*]) <;> exact rfl))
      | ((with_reducible apply Wd_gsF); (exact rfl); ((conv => lhs; simp -implicitDefEqProofs [*]) <;> exact rfl))
      | ((with_reducible first | apply W_srdl | apply W_rdl); kernel_rfl)
      | ((with_reducible apply Wd_nil); kernel_rfl)
      | ((with_reducible apply inB_o); rotate_left; exact rfl)
      | (intro h h'; try simp [*, -h] at h')
      | ((with_reducible apply Wd_gx); (exact rfl); ((conv => lhs; simp -implicitDefEqProofs [*]) <;> exact rfl)))
    all_goals exact ⟨by simp, _, _, rfl, rfl, by simp [*], by simp [*], fun y h0 h1 h2 => (by have e1 : ∀ k i, y ≠ ⟨k + 1, i, 0⟩ := fun k i e => (by subst e; simp at h0); have e2 : ∀ i, y ≠ ⟨1, i, 0⟩ := fun i => e1 0 i; have e3 : ∀ i, y ≠ ⟨2, i, 0⟩ := fun i => e1 1 i; have e4 : ∀ i, y ≠ ⟨3, i, 0⟩ := fun i => e1 2 i; have e5 : ∀ i, y ≠ ⟨4, i, 0⟩ := fun i => e1 3 i; simp [*])⟩
  obtain ⟨z, hp', h1, rfl, h2⟩ := key
  exact ⟨hp', h1, h2⟩
end Go.Proofs.YtaeeffddinppeaaGreatDoor
