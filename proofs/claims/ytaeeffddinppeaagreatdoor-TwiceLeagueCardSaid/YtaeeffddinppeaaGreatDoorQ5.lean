/- Jumps, walked. -/
import Derived.Test.YtaeeffddinppeaaGreatDoorQ4
set_option linter.unusedSimpArgs false
set_option linter.unusedVariables false
namespace Go.Proofs.YtaeeffddinppeaaGreatDoor
open Go Go.Ab Go.Ma
theorem bx_regg {code : List Int} {inp : ByteArray} {pc : Int} {rg : List Int} {M : AV} {rd steps en : Int} {o : Bool} {go no : Nat} {a : Nat} (h : rg.length = 16) (ha : a < 16) (hl : 3 + a < (bxP code inp pc rg M rd steps en o go no).length) : (bxP code inp pc rg M rd steps en o go no)[3 + a] = uv ((rg[a]?).getD 0) := by
  have h1 := bx_reg (code := code) (inp := inp) (pc := pc) (M := M) (rd := rd) (steps := steps) (en := en) (o := o) (go := go) (no := no) h ha
  rw [List.getElem?_eq_getElem hl] at h1
  rw [List.getElem?_eq_getElem (by omega)] at h1 ⊢
  simpa using h1
theorem bg_0 {code : List Int} {inp : ByteArray} {pc : Int} {rg : List Int} {M : AV} {rd steps en : Int} {o : Bool} {go no : Nat} (h : rg.length = 16) (hl : 0 < (bxP code inp pc rg M rd steps en o go no).length) : (bxP code inp pc rg M rd steps en o go no)[0] = .sl false 1 (rowW code) := by
  have h1 : (bxP code inp pc rg M rd steps en o go no)[0]? = some (.sl false 1 (rowW code)) := bx_0
  rw [List.getElem?_eq_getElem hl] at h1
  exact Option.some.inj h1
theorem bg_1 {code : List Int} {inp : ByteArray} {pc : Int} {rg : List Int} {M : AV} {rd steps en : Int} {o : Bool} {go no : Nat} (h : rg.length = 16) (hl : 1 < (bxP code inp pc rg M rd steps en o go no).length) : (bxP code inp pc rg M rd steps en o go no)[1] = .sc (.string inp) := by
  have h1 : (bxP code inp pc rg M rd steps en o go no)[1]? = some (.sc (.string inp)) := bx_1
  rw [List.getElem?_eq_getElem hl] at h1
  exact Option.some.inj h1
theorem bg_2 {code : List Int} {inp : ByteArray} {pc : Int} {rg : List Int} {M : AV} {rd steps en : Int} {o : Bool} {go no : Nat} (h : rg.length = 16) (hl : 2 < (bxP code inp pc rg M rd steps en o go no).length) : (bxP code inp pc rg M rd steps en o go no)[2] = iv pc := by
  have h1 : (bxP code inp pc rg M rd steps en o go no)[2]? = some (iv pc) := bx_2
  rw [List.getElem?_eq_getElem hl] at h1
  exact Option.some.inj h1
theorem bg_19 {code : List Int} {inp : ByteArray} {pc : Int} {rg : List Int} {M : AV} {rd steps en : Int} {o : Bool} {go no : Nat} (h : rg.length = 16) (hl : 19 < (bxP code inp pc rg M rd steps en o go no).length) : (bxP code inp pc rg M rd steps en o go no)[19] = M := by
  have h1 : (bxP code inp pc rg M rd steps en o go no)[19]? = some (M) := bx_19 h
  rw [List.getElem?_eq_getElem hl] at h1
  exact Option.some.inj h1
theorem bg_20 {code : List Int} {inp : ByteArray} {pc : Int} {rg : List Int} {M : AV} {rd steps en : Int} {o : Bool} {go no : Nat} (h : rg.length = 16) (hl : 20 < (bxP code inp pc rg M rd steps en o go no).length) : (bxP code inp pc rg M rd steps en o go no)[20] = iv rd := by
  have h1 : (bxP code inp pc rg M rd steps en o go no)[20]? = some (iv rd) := bx_20 h
  rw [List.getElem?_eq_getElem hl] at h1
  exact Option.some.inj h1
theorem bg_21 {code : List Int} {inp : ByteArray} {pc : Int} {rg : List Int} {M : AV} {rd steps en : Int} {o : Bool} {go no : Nat} (h : rg.length = 16) (hl : 21 < (bxP code inp pc rg M rd steps en o go no).length) : (bxP code inp pc rg M rd steps en o go no)[21] = .sc (.string ⟨#[]⟩) := by
  have h1 : (bxP code inp pc rg M rd steps en o go no)[21]? = some (.sc (.string ⟨#[]⟩)) := bx_21 h
  rw [List.getElem?_eq_getElem hl] at h1
  exact Option.some.inj h1
theorem bg_22 {code : List Int} {inp : ByteArray} {pc : Int} {rg : List Int} {M : AV} {rd steps en : Int} {o : Bool} {go no : Nat} (h : rg.length = 16) (hl : 22 < (bxP code inp pc rg M rd steps en o go no).length) : (bxP code inp pc rg M rd steps en o go no)[22] = iv steps := by
  have h1 : (bxP code inp pc rg M rd steps en o go no)[22]? = some (iv steps) := bx_22 h
  rw [List.getElem?_eq_getElem hl] at h1
  exact Option.some.inj h1
theorem bg_23 {code : List Int} {inp : ByteArray} {pc : Int} {rg : List Int} {M : AV} {rd steps en : Int} {o : Bool} {go no : Nat} (h : rg.length = 16) (hl : 23 < (bxP code inp pc rg M rd steps en o go no).length) : (bxP code inp pc rg M rd steps en o go no)[23] = iv en := by
  have h1 : (bxP code inp pc rg M rd steps en o go no)[23]? = some (iv en) := bx_23 h
  rw [List.getElem?_eq_getElem hl] at h1
  exact Option.some.inj h1
theorem bg_24 {code : List Int} {inp : ByteArray} {pc : Int} {rg : List Int} {M : AV} {rd steps en : Int} {o : Bool} {go no : Nat} (h : rg.length = 16) (hl : 24 < (bxP code inp pc rg M rd steps en o go no).length) : (bxP code inp pc rg M rd steps en o go no)[24] = bv o := by
  have h1 : (bxP code inp pc rg M rd steps en o go no)[24]? = some (bv o) := bx_24 h
  rw [List.getElem?_eq_getElem hl] at h1
  exact Option.some.inj h1
theorem bg_25 {code : List Int} {inp : ByteArray} {pc : Int} {rg : List Int} {M : AV} {rd steps en : Int} {o : Bool} {go no : Nat} (h : rg.length = 16) (hl : 25 < (bxP code inp pc rg M rd steps en o go no).length) : (bxP code inp pc rg M rd steps en o go no)[25] = .own ⟨0, 13, 26⟩ go no := by
  have h1 : (bxP code inp pc rg M rd steps en o go no)[25]? = some (.own ⟨0, 13, 26⟩ go no) := bx_25 h
  rw [List.getElem?_eq_getElem hl] at h1
  exact Option.some.inj h1
attribute [-simp] Prog.bind getCs putCs
attribute [local simp ↓] run_bind
attribute [local simp ↓] runF_bind
attribute [local simp] run_getCsN runF_getCsN facetsC putCs_one run_putCsN
attribute [local simp] take1 bx_len bx_0 bx_1 bx_2 bx_19 bx_20 bx_21 bx_22 bx_23 bx_24 bx_25 bx_reg bs_2 bs_19 bs_20 bs_22 bs_23 bs_24 bs_25 bs_reg bx_regg bg_0 bg_1 bg_2 bg_19 bg_20 bg_21 bg_22 bg_23 bg_24 bg_25
theorem getV {l : List Int} {n : Nat} {x : Int} (h : l[n]? = some x) : ∀ h', l[n]'h' = x := fun h' => by
  rw [List.getElem?_eq_getElem h'] at h
  exact Option.some.inj h
theorem skol {C : Hp → Prop} {P : Nat → Hp → Hp → Prop} (h : ∀ d hp, C hp → ∃ hp', P d hp hp') : ∃ F : Nat → Hp → Hp, ∀ d hp, C hp → P d hp (F d hp) := by
  classical
  refine ⟨fun d hp => if c : C hp then Classical.choose (h d hp c) else hp, fun d hp c => ?_⟩
  simp only [dif_pos c]
  exact Classical.choose_spec (h d hp c)
set_option maxHeartbeats 4000000 in
theorem m399_18 {code : List Int} {inp : ByteArray} {pc : Int} {rg : List Int} {M : AV} {rd steps en : Int} {o : Bool} {go no : Nat} (na nb nc : Nat) (hpc0 : 0 ≤ pc) (hpc1 : pc ≤ 4294967296)  (hrl : rg.length = 16) (d : Nat) (hp1 : Hp) (hx : hp1 ⟨0, 13, 0⟩ = .box 1 (bxP code inp pc rg M rd steps en o go no) false)  :
    ∃ hp', (lim Tryz.prog E00 X00).hpc 3 d 399 [.ptr ⟨0, 13, 0⟩ 1 0, .agg [iv 18, iv na, iv nb, iv nc]] hp1 = some (.tup [], hp') ∧ hp' ⟨0, 13, 0⟩ = .box 1 (bxP code inp (nc : Int) rg M rd steps en o go no) false ∧ ∀ y : Nm, y.d = 0 → y ≠ ⟨0, 13, 0⟩ → hp' y = hp1 y := by
  have key : ∃ z hp', (lim Tryz.prog E00 X00).hpc 3 d 399 [.ptr ⟨0, 13, 0⟩ 1 0, .agg [iv 18, iv na, iv nb, iv nc]] hp1 = some (z, hp') ∧ (z = .tup [] ∧ hp' ⟨0, 13, 0⟩ = .box 1 (bxP code inp (nc : Int) rg M rd steps en o go no) false ∧ ∀ y : Nm, y.d = 0 → y ≠ ⟨0, 13, 0⟩ → hp' y = hp1 y) := by
    refine lim_hpcW (R := fun z hp' => z = .tup [] ∧ hp' ⟨0, 13, 0⟩ = .box 1 (bxP code inp (nc : Int) rg M rd steps en o go no) false ∧ ∀ y : Nm, y.d = 0 → y ≠ ⟨0, 13, 0⟩ → hp' y = hp1 y) Tryz.func399 rfl rfl bodyOk_399 rfl rfl ?_
    have hNA := fun (k : Nat) (h : k < 16) => (⟨by omega, by omega⟩ : 3 + k ≤ 25 ∧ 3 + k < 26)
    try have hA := hNA _ ha
    try have hB := hNA _ hb16
    try have hC := hNA _ hc16
    clear hNA
    try have hga' := getV hga
    try have hgb' := getV hgb
    try have hgc' := getV hgc
    have hw : IntKind.i64.wrap (pc + 1) = pc + 1 := wrap64 (by omega) (by omega)
    repeat' (first
      | ((with_reducible first | apply Wo_u | apply Wo_n | apply ex2 | apply W_sc | apply W_c | apply Wd_u | apply Wd_n | apply ex4 | apply EndQ_ret | apply EndQ_normal); (conv => lhs; simp -implicitDefEqProofs [*]) <;> exact rfl)
      | (with_reducible first | apply Wo_nil | apply W_ss | apply W_srl | apply W_rl | apply W_sblock | apply W_block | apply W_sskip | apply W_skip | apply W_sret | apply W_ret | apply W_sexit | apply W_exit | apply thenW_n | apply thenW_r | apply thenW_e | apply inB_n | apply inB_r | apply inB_e)
      | ((with_reducible apply Wo_gt); (exact rfl); ((conv => lhs; simp -implicitDefEqProofs [*]) <;> exact rfl); (conv => lhs; simp -implicitDefEqProofs [*]) <;> exact rfl)
      | ((with_reducible apply Wo_gf); (exact rfl); ((conv => lhs; simp -implicitDefEqProofs [*]) <;> exact rfl); (exact rfl))
      | ((with_reducible apply Wo_gx); (exact rfl); ((conv => lhs; simp -implicitDefEqProofs [*]) <;> exact rfl))
      | ((with_reducible apply Wo_gsT); (exact rfl); ((conv => lhs; simp -implicitDefEqProofs [*]) <;> exact rfl))
      | ((with_reducible apply Wo_gsF); (exact rfl); ((conv => lhs; simp -implicitDefEqProofs [*]) <;> exact rfl))
      | ((with_reducible apply Wd_gsT); (exact rfl); ((conv => lhs; simp -implicitDefEqProofs [*]) <;> exact rfl))
      | ((with_reducible apply Wd_gsF); (exact rfl); ((conv => lhs; simp -implicitDefEqProofs [*]) <;> exact rfl))
      | ((with_reducible first | apply W_srdl | apply W_rdl); kernel_rfl)
      | ((with_reducible apply Wd_nil); kernel_rfl)
      | ((with_reducible apply inB_o); rotate_left; exact rfl)
      | (intro h h'; try simp [*, -h] at h')
      | ((with_reducible apply Wd_gx); (exact rfl); ((conv => lhs; simp -implicitDefEqProofs [*]) <;> exact rfl)))
    all_goals exact ⟨by simp, _, _, rfl, rfl, by simp [*], fun y h0 h1 => (by have e1 : ∀ k i, y ≠ ⟨k + 1, i, 0⟩ := fun k i e => (by subst e; simp at h0); have e2 : ∀ i, y ≠ ⟨1, i, 0⟩ := fun i => e1 0 i; have e3 : ∀ i, y ≠ ⟨2, i, 0⟩ := fun i => e1 1 i; have e4 : ∀ i, y ≠ ⟨3, i, 0⟩ := fun i => e1 2 i; have e5 : ∀ i, y ≠ ⟨4, i, 0⟩ := fun i => e1 3 i; simp [*])⟩
  obtain ⟨z, hp', h1, rfl, h2⟩ := key
  exact ⟨hp', h1, h2⟩
set_option maxHeartbeats 4000000 in
theorem m399_19 {code : List Int} {inp : ByteArray} {pc : Int} {rg : List Int} {M : AV} {rd steps en : Int} {o : Bool} {go no : Nat} (na nb nc : Nat) (xa : Int) (hpc0 : 0 ≤ pc) (hpc1 : pc ≤ 4294967296)  (hrl : rg.length = 16) (d : Nat) (hp1 : Hp) (hx : hp1 ⟨0, 13, 0⟩ = .box 1 (bxP code inp pc rg M rd steps en o go no) false) (ha : na < 16) (hga : rg[na]? = some xa) :
    ∃ hp', (lim Tryz.prog E00 X00).hpc 3 d 399 [.ptr ⟨0, 13, 0⟩ 1 0, .agg [iv 19, iv na, iv nb, iv nc]] hp1 = some (.tup [], hp') ∧ hp' ⟨0, 13, 0⟩ = .box 1 (bxP code inp (if xa = 0 then (nc : Int) else pc + 1) rg M rd steps en o go no) false ∧ ∀ y : Nm, y.d = 0 → y ≠ ⟨0, 13, 0⟩ → hp' y = hp1 y := by
  have key : ∃ z hp', (lim Tryz.prog E00 X00).hpc 3 d 399 [.ptr ⟨0, 13, 0⟩ 1 0, .agg [iv 19, iv na, iv nb, iv nc]] hp1 = some (z, hp') ∧ (z = .tup [] ∧ hp' ⟨0, 13, 0⟩ = .box 1 (bxP code inp (if xa = 0 then (nc : Int) else pc + 1) rg M rd steps en o go no) false ∧ ∀ y : Nm, y.d = 0 → y ≠ ⟨0, 13, 0⟩ → hp' y = hp1 y) := by
    refine lim_hpcW (R := fun z hp' => z = .tup [] ∧ hp' ⟨0, 13, 0⟩ = .box 1 (bxP code inp (if xa = 0 then (nc : Int) else pc + 1) rg M rd steps en o go no) false ∧ ∀ y : Nm, y.d = 0 → y ≠ ⟨0, 13, 0⟩ → hp' y = hp1 y) Tryz.func399 rfl rfl bodyOk_399 rfl rfl ?_
    have hNA := fun (k : Nat) (h : k < 16) => (⟨by omega, by omega⟩ : 3 + k ≤ 25 ∧ 3 + k < 26)
    try have hA := hNA _ ha
    try have hB := hNA _ hb16
    try have hC := hNA _ hc16
    clear hNA
    try have hga' := getV hga
    try have hgb' := getV hgb
    try have hgc' := getV hgc
    have hw : IntKind.i64.wrap (pc + 1) = pc + 1 := wrap64 (by omega) (by omega)
    have hb := beq_dec xa 0
    by_cases h0 : xa = 0
    all_goals simp only [h0, if_true, if_false, decide_true, decide_false] at hb ⊢
    all_goals (try subst h0)
    all_goals
    repeat' (first
      | ((with_reducible first | apply Wo_u | apply Wo_n | apply ex2 | apply W_sc | apply W_c | apply Wd_u | apply Wd_n | apply ex4 | apply EndQ_ret | apply EndQ_normal); (conv => lhs; simp -implicitDefEqProofs [*]) <;> exact rfl)
      | (with_reducible first | apply Wo_nil | apply W_ss | apply W_srl | apply W_rl | apply W_sblock | apply W_block | apply W_sskip | apply W_skip | apply W_sret | apply W_ret | apply W_sexit | apply W_exit | apply thenW_n | apply thenW_r | apply thenW_e | apply inB_n | apply inB_r | apply inB_e)
      | ((with_reducible apply Wo_gt); (exact rfl); ((conv => lhs; simp -implicitDefEqProofs [*]) <;> exact rfl); (conv => lhs; simp -implicitDefEqProofs [*]) <;> exact rfl)
      | ((with_reducible apply Wo_gf); (exact rfl); ((conv => lhs; simp -implicitDefEqProofs [*]) <;> exact rfl); (exact rfl))
      | ((with_reducible apply Wo_gx); (exact rfl); ((conv => lhs; simp -implicitDefEqProofs [*]) <;> exact rfl))
      | ((with_reducible apply Wo_gsT); (exact rfl); ((conv => lhs; simp -implicitDefEqProofs [*]) <;> exact rfl))
      | ((with_reducible apply Wo_gsF); (exact rfl); ((conv => lhs; simp -implicitDefEqProofs [*]) <;> exact rfl))
      | ((with_reducible apply Wd_gsT); (exact rfl); ((conv => lhs; simp -implicitDefEqProofs [*]) <;> exact rfl))
      | ((with_reducible apply Wd_gsF); (exact rfl); ((conv => lhs; simp -implicitDefEqProofs [*]) <;> exact rfl))
      | ((with_reducible first | apply W_srdl | apply W_rdl); kernel_rfl)
      | ((with_reducible apply Wd_nil); kernel_rfl)
      | ((with_reducible apply inB_o); rotate_left; exact rfl)
      | (intro h h'; try simp [*, -h] at h')
      | ((with_reducible apply Wd_gx); (exact rfl); ((conv => lhs; simp -implicitDefEqProofs [*]) <;> exact rfl)))
    all_goals exact ⟨by simp, _, _, rfl, rfl, by simp [*], fun y h0 h1 => (by have e1 : ∀ k i, y ≠ ⟨k + 1, i, 0⟩ := fun k i e => (by subst e; simp at h0); have e2 : ∀ i, y ≠ ⟨1, i, 0⟩ := fun i => e1 0 i; have e3 : ∀ i, y ≠ ⟨2, i, 0⟩ := fun i => e1 1 i; have e4 : ∀ i, y ≠ ⟨3, i, 0⟩ := fun i => e1 2 i; have e5 : ∀ i, y ≠ ⟨4, i, 0⟩ := fun i => e1 3 i; simp [*])⟩
  obtain ⟨z, hp', h1, rfl, h2⟩ := key
  exact ⟨hp', h1, h2⟩
set_option maxHeartbeats 4000000 in
theorem m399_20 {code : List Int} {inp : ByteArray} {pc : Int} {rg : List Int} {M : AV} {rd steps en : Int} {o : Bool} {go no : Nat} (na nb nc : Nat) (xa : Int) (hpc0 : 0 ≤ pc) (hpc1 : pc ≤ 4294967296)  (hrl : rg.length = 16) (d : Nat) (hp1 : Hp) (hx : hp1 ⟨0, 13, 0⟩ = .box 1 (bxP code inp pc rg M rd steps en o go no) false) (ha : na < 16) (hga : rg[na]? = some xa) :
    ∃ hp', (lim Tryz.prog E00 X00).hpc 3 d 399 [.ptr ⟨0, 13, 0⟩ 1 0, .agg [iv 20, iv na, iv nb, iv nc]] hp1 = some (.tup [], hp') ∧ hp' ⟨0, 13, 0⟩ = .box 1 (bxP code inp (if xa ≠ 0 then (nc : Int) else pc + 1) rg M rd steps en o go no) false ∧ ∀ y : Nm, y.d = 0 → y ≠ ⟨0, 13, 0⟩ → hp' y = hp1 y := by
  have key : ∃ z hp', (lim Tryz.prog E00 X00).hpc 3 d 399 [.ptr ⟨0, 13, 0⟩ 1 0, .agg [iv 20, iv na, iv nb, iv nc]] hp1 = some (z, hp') ∧ (z = .tup [] ∧ hp' ⟨0, 13, 0⟩ = .box 1 (bxP code inp (if xa ≠ 0 then (nc : Int) else pc + 1) rg M rd steps en o go no) false ∧ ∀ y : Nm, y.d = 0 → y ≠ ⟨0, 13, 0⟩ → hp' y = hp1 y) := by
    refine lim_hpcW (R := fun z hp' => z = .tup [] ∧ hp' ⟨0, 13, 0⟩ = .box 1 (bxP code inp (if xa ≠ 0 then (nc : Int) else pc + 1) rg M rd steps en o go no) false ∧ ∀ y : Nm, y.d = 0 → y ≠ ⟨0, 13, 0⟩ → hp' y = hp1 y) Tryz.func399 rfl rfl bodyOk_399 rfl rfl ?_
    have hNA := fun (k : Nat) (h : k < 16) => (⟨by omega, by omega⟩ : 3 + k ≤ 25 ∧ 3 + k < 26)
    try have hA := hNA _ ha
    try have hB := hNA _ hb16
    try have hC := hNA _ hc16
    clear hNA
    try have hga' := getV hga
    try have hgb' := getV hgb
    try have hgc' := getV hgc
    have hw : IntKind.i64.wrap (pc + 1) = pc + 1 := wrap64 (by omega) (by omega)
    have hb := bne_dec xa 0
    by_cases h0 : xa = 0
    all_goals simp only [ne_eq, h0, not_true, not_false_iff, if_true, if_false, decide_true, decide_false] at hb ⊢
    all_goals (try subst h0)
    all_goals
    repeat' (first
      | ((with_reducible first | apply Wo_u | apply Wo_n | apply ex2 | apply W_sc | apply W_c | apply Wd_u | apply Wd_n | apply ex4 | apply EndQ_ret | apply EndQ_normal); (conv => lhs; simp -implicitDefEqProofs [*]) <;> exact rfl)
      | (with_reducible first | apply Wo_nil | apply W_ss | apply W_srl | apply W_rl | apply W_sblock | apply W_block | apply W_sskip | apply W_skip | apply W_sret | apply W_ret | apply W_sexit | apply W_exit | apply thenW_n | apply thenW_r | apply thenW_e | apply inB_n | apply inB_r | apply inB_e)
      | ((with_reducible apply Wo_gt); (exact rfl); ((conv => lhs; simp -implicitDefEqProofs [*]) <;> exact rfl); (conv => lhs; simp -implicitDefEqProofs [*]) <;> exact rfl)
      | ((with_reducible apply Wo_gf); (exact rfl); ((conv => lhs; simp -implicitDefEqProofs [*]) <;> exact rfl); (exact rfl))
      | ((with_reducible apply Wo_gx); (exact rfl); ((conv => lhs; simp -implicitDefEqProofs [*]) <;> exact rfl))
      | ((with_reducible apply Wo_gsT); (exact rfl); ((conv => lhs; simp -implicitDefEqProofs [*]) <;> exact rfl))
      | ((with_reducible apply Wo_gsF); (exact rfl); ((conv => lhs; simp -implicitDefEqProofs [*]) <;> exact rfl))
      | ((with_reducible apply Wd_gsT); (exact rfl); ((conv => lhs; simp -implicitDefEqProofs [*]) <;> exact rfl))
      | ((with_reducible apply Wd_gsF); (exact rfl); ((conv => lhs; simp -implicitDefEqProofs [*]) <;> exact rfl))
      | ((with_reducible first | apply W_srdl | apply W_rdl); kernel_rfl)
      | ((with_reducible apply Wd_nil); kernel_rfl)
      | ((with_reducible apply inB_o); rotate_left; exact rfl)
      | (intro h h'; try simp [*, -h] at h')
      | ((with_reducible apply Wd_gx); (exact rfl); ((conv => lhs; simp -implicitDefEqProofs [*]) <;> exact rfl)))
    all_goals exact ⟨by simp, _, _, rfl, rfl, by simp [*], fun y h0 h1 => (by have e1 : ∀ k i, y ≠ ⟨k + 1, i, 0⟩ := fun k i e => (by subst e; simp at h0); have e2 : ∀ i, y ≠ ⟨1, i, 0⟩ := fun i => e1 0 i; have e3 : ∀ i, y ≠ ⟨2, i, 0⟩ := fun i => e1 1 i; have e4 : ∀ i, y ≠ ⟨3, i, 0⟩ := fun i => e1 2 i; have e5 : ∀ i, y ≠ ⟨4, i, 0⟩ := fun i => e1 3 i; simp [*])⟩
  obtain ⟨z, hp', h1, rfl, h2⟩ := key
  exact ⟨hp', h1, h2⟩
set_option maxHeartbeats 4000000 in
theorem m399_21 {code : List Int} {inp : ByteArray} {pc : Int} {rg : List Int} {M : AV} {rd steps en : Int} {o : Bool} {go no : Nat} (na nb nc : Nat) (hpc0 : 0 ≤ pc) (hpc1 : pc ≤ 4294967296)  (hrl : rg.length = 16) (d : Nat) (hp1 : Hp) (hx : hp1 ⟨0, 13, 0⟩ = .box 1 (bxP code inp pc rg M rd steps en o go no) false) (ha : na < 16) :
    ∃ hp', (lim Tryz.prog E00 X00).hpc 3 d 399 [.ptr ⟨0, 13, 0⟩ 1 0, .agg [iv 21, iv na, iv nb, iv nc]] hp1 = some (.tup [], hp') ∧ hp' ⟨0, 13, 0⟩ = .box 1 (bxP code inp (nc : Int) (rg.set na ((pc + 1) % 4294967296)) M rd steps en o go no) false ∧ ∀ y : Nm, y.d = 0 → y ≠ ⟨0, 13, 0⟩ → hp' y = hp1 y := by
  have key : ∃ z hp', (lim Tryz.prog E00 X00).hpc 3 d 399 [.ptr ⟨0, 13, 0⟩ 1 0, .agg [iv 21, iv na, iv nb, iv nc]] hp1 = some (z, hp') ∧ (z = .tup [] ∧ hp' ⟨0, 13, 0⟩ = .box 1 (bxP code inp (nc : Int) (rg.set na ((pc + 1) % 4294967296)) M rd steps en o go no) false ∧ ∀ y : Nm, y.d = 0 → y ≠ ⟨0, 13, 0⟩ → hp' y = hp1 y) := by
    refine lim_hpcW (R := fun z hp' => z = .tup [] ∧ hp' ⟨0, 13, 0⟩ = .box 1 (bxP code inp (nc : Int) (rg.set na ((pc + 1) % 4294967296)) M rd steps en o go no) false ∧ ∀ y : Nm, y.d = 0 → y ≠ ⟨0, 13, 0⟩ → hp' y = hp1 y) Tryz.func399 rfl rfl bodyOk_399 rfl rfl ?_
    have hNA := fun (k : Nat) (h : k < 16) => (⟨by omega, by omega⟩ : 3 + k ≤ 25 ∧ 3 + k < 26)
    try have hA := hNA _ ha
    try have hB := hNA _ hb16
    try have hC := hNA _ hc16
    clear hNA
    try have hga' := getV hga
    try have hgb' := getV hgb
    try have hgc' := getV hgc
    have hw : IntKind.i64.wrap (pc + 1) = pc + 1 := wrap64 (by omega) (by omega)
    have hw2 : IntKind.u32.wrap (pc + 1) = (pc + 1) % 4294967296 := IntKind.wrap_u32 _
    repeat' (first
      | ((with_reducible first | apply Wo_u | apply Wo_n | apply ex2 | apply W_sc | apply W_c | apply Wd_u | apply Wd_n | apply ex4 | apply EndQ_ret | apply EndQ_normal); (conv => lhs; simp -implicitDefEqProofs [*]) <;> exact rfl)
      | (with_reducible first | apply Wo_nil | apply W_ss | apply W_srl | apply W_rl | apply W_sblock | apply W_block | apply W_sskip | apply W_skip | apply W_sret | apply W_ret | apply W_sexit | apply W_exit | apply thenW_n | apply thenW_r | apply thenW_e | apply inB_n | apply inB_r | apply inB_e)
      | ((with_reducible apply Wo_gt); (exact rfl); ((conv => lhs; simp -implicitDefEqProofs [*]) <;> exact rfl); (conv => lhs; simp -implicitDefEqProofs [*]) <;> exact rfl)
      | ((with_reducible apply Wo_gf); (exact rfl); ((conv => lhs; simp -implicitDefEqProofs [*]) <;> exact rfl); (exact rfl))
      | ((with_reducible apply Wo_gx); (exact rfl); ((conv => lhs; simp -implicitDefEqProofs [*]) <;> exact rfl))
      | ((with_reducible apply Wo_gsT); (exact rfl); ((conv => lhs; simp -implicitDefEqProofs [*]) <;> exact rfl))
      | ((with_reducible apply Wo_gsF); (exact rfl); ((conv => lhs; simp -implicitDefEqProofs [*]) <;> exact rfl))
      | ((with_reducible apply Wd_gsT); (exact rfl); ((conv => lhs; simp -implicitDefEqProofs [*]) <;> exact rfl))
      | ((with_reducible apply Wd_gsF); (exact rfl); ((conv => lhs; simp -implicitDefEqProofs [*]) <;> exact rfl))
      | ((with_reducible first | apply W_srdl | apply W_rdl); kernel_rfl)
      | ((with_reducible apply Wd_nil); kernel_rfl)
      | ((with_reducible apply inB_o); rotate_left; exact rfl)
      | (intro h h'; try simp [*, -h] at h')
      | ((with_reducible apply Wd_gx); (exact rfl); ((conv => lhs; simp -implicitDefEqProofs [*]) <;> exact rfl)))
    all_goals exact ⟨by simp, _, _, rfl, rfl, by simp [*], fun y h0 h1 => (by have e1 : ∀ k i, y ≠ ⟨k + 1, i, 0⟩ := fun k i e => (by subst e; simp at h0); have e2 : ∀ i, y ≠ ⟨1, i, 0⟩ := fun i => e1 0 i; have e3 : ∀ i, y ≠ ⟨2, i, 0⟩ := fun i => e1 1 i; have e4 : ∀ i, y ≠ ⟨3, i, 0⟩ := fun i => e1 2 i; have e5 : ∀ i, y ≠ ⟨4, i, 0⟩ := fun i => e1 3 i; simp [*])⟩
  obtain ⟨z, hp', h1, rfl, h2⟩ := key
  exact ⟨hp', h1, h2⟩
set_option maxHeartbeats 4000000 in
theorem m399_22 {code : List Int} {inp : ByteArray} {pc : Int} {rg : List Int} {M : AV} {rd steps en : Int} {o : Bool} {go no : Nat} (na nb nc : Nat) (xa : Int) (hxa : Ma.U xa) (hpc0 : 0 ≤ pc) (hpc1 : pc ≤ 4294967296)  (hrl : rg.length = 16) (d : Nat) (hp1 : Hp) (hx : hp1 ⟨0, 13, 0⟩ = .box 1 (bxP code inp pc rg M rd steps en o go no) false) (ha : na < 16) (hga : rg[na]? = some xa) :
    ∃ hp', (lim Tryz.prog E00 X00).hpc 3 d 399 [.ptr ⟨0, 13, 0⟩ 1 0, .agg [iv 22, iv na, iv nb, iv nc]] hp1 = some (.tup [], hp') ∧ hp' ⟨0, 13, 0⟩ = .box 1 (bxP code inp xa rg M rd steps en o go no) false ∧ ∀ y : Nm, y.d = 0 → y ≠ ⟨0, 13, 0⟩ → hp' y = hp1 y := by
  have key : ∃ z hp', (lim Tryz.prog E00 X00).hpc 3 d 399 [.ptr ⟨0, 13, 0⟩ 1 0, .agg [iv 22, iv na, iv nb, iv nc]] hp1 = some (z, hp') ∧ (z = .tup [] ∧ hp' ⟨0, 13, 0⟩ = .box 1 (bxP code inp xa rg M rd steps en o go no) false ∧ ∀ y : Nm, y.d = 0 → y ≠ ⟨0, 13, 0⟩ → hp' y = hp1 y) := by
    refine lim_hpcW (R := fun z hp' => z = .tup [] ∧ hp' ⟨0, 13, 0⟩ = .box 1 (bxP code inp xa rg M rd steps en o go no) false ∧ ∀ y : Nm, y.d = 0 → y ≠ ⟨0, 13, 0⟩ → hp' y = hp1 y) Tryz.func399 rfl rfl bodyOk_399 rfl rfl ?_
    have hNA := fun (k : Nat) (h : k < 16) => (⟨by omega, by omega⟩ : 3 + k ≤ 25 ∧ 3 + k < 26)
    try have hA := hNA _ ha
    try have hB := hNA _ hb16
    try have hC := hNA _ hc16
    clear hNA
    try have hga' := getV hga
    try have hgb' := getV hgb
    try have hgc' := getV hgc
    have hw : IntKind.i64.wrap (pc + 1) = pc + 1 := wrap64 (by omega) (by omega)
    have hw2 : IntKind.i64.wrap xa = xa := by unfold Ma.U at hxa; exact wrap64 (by omega) (by omega)
    clear hxa
    repeat' (first
      | ((with_reducible first | apply Wo_u | apply Wo_n | apply ex2 | apply W_sc | apply W_c | apply Wd_u | apply Wd_n | apply ex4 | apply EndQ_ret | apply EndQ_normal); (conv => lhs; simp -implicitDefEqProofs [*]) <;> exact rfl)
      | (with_reducible first | apply Wo_nil | apply W_ss | apply W_srl | apply W_rl | apply W_sblock | apply W_block | apply W_sskip | apply W_skip | apply W_sret | apply W_ret | apply W_sexit | apply W_exit | apply thenW_n | apply thenW_r | apply thenW_e | apply inB_n | apply inB_r | apply inB_e)
      | ((with_reducible apply Wo_gt); (exact rfl); ((conv => lhs; simp -implicitDefEqProofs [*]) <;> exact rfl); (conv => lhs; simp -implicitDefEqProofs [*]) <;> exact rfl)
      | ((with_reducible apply Wo_gf); (exact rfl); ((conv => lhs; simp -implicitDefEqProofs [*]) <;> exact rfl); (exact rfl))
      | ((with_reducible apply Wo_gx); (exact rfl); ((conv => lhs; simp -implicitDefEqProofs [*]) <;> exact rfl))
      | ((with_reducible apply Wo_gsT); (exact rfl); ((conv => lhs; simp -implicitDefEqProofs [*]) <;> exact rfl))
      | ((with_reducible apply Wo_gsF); (exact rfl); ((conv => lhs; simp -implicitDefEqProofs [*]) <;> exact rfl))
      | ((with_reducible apply Wd_gsT); (exact rfl); ((conv => lhs; simp -implicitDefEqProofs [*]) <;> exact rfl))
      | ((with_reducible apply Wd_gsF); (exact rfl); ((conv => lhs; simp -implicitDefEqProofs [*]) <;> exact rfl))
      | ((with_reducible first | apply W_srdl | apply W_rdl); kernel_rfl)
      | ((with_reducible apply Wd_nil); kernel_rfl)
      | ((with_reducible apply inB_o); rotate_left; exact rfl)
      | (intro h h'; try simp [*, -h] at h')
      | ((with_reducible apply Wd_gx); (exact rfl); ((conv => lhs; simp -implicitDefEqProofs [*]) <;> exact rfl)))
    all_goals exact ⟨by simp, _, _, rfl, rfl, by simp [*], fun y h0 h1 => (by have e1 : ∀ k i, y ≠ ⟨k + 1, i, 0⟩ := fun k i e => (by subst e; simp at h0); have e2 : ∀ i, y ≠ ⟨1, i, 0⟩ := fun i => e1 0 i; have e3 : ∀ i, y ≠ ⟨2, i, 0⟩ := fun i => e1 1 i; have e4 : ∀ i, y ≠ ⟨3, i, 0⟩ := fun i => e1 2 i; have e5 : ∀ i, y ≠ ⟨4, i, 0⟩ := fun i => e1 3 i; simp [*])⟩
  obtain ⟨z, hp', h1, rfl, h2⟩ := key
  exact ⟨hp', h1, h2⟩
end Go.Proofs.YtaeeffddinppeaaGreatDoor
