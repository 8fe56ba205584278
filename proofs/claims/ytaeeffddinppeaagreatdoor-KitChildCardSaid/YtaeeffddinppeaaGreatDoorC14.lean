/- A part of the proof: Mj, Mk, Ml. -/
import Derived.Test.YtaeeffddinppeaaGreatDoorC13
set_option linter.unusedSimpArgs false
set_option linter.unusedVariables false
namespace Go.Proofs.YtaeeffddinppeaaGreatDoor
open Go Go.Ab Go.Ma
attribute [-simp] Prog.bind getCs putCs
attribute [local simp ↓] run_bind
attribute [local simp ↓] runF_bind
attribute [local simp] run_getCsN runF_getCsN facetsC putCs_one run_putCsN
attribute [local simp] take1 bx_len bx_0 bx_1 bx_2 bx_19 bx_20 bx_21 bx_22 bx_23 bx_24 bx_25 bx_reg bs_2 bs_19 bs_20 bs_22 bs_23 bs_24 bs_25 bs_reg bx_regg bg_0 bg_1 bg_2 bg_19 bg_20 bg_21 bg_22 bg_23 bg_24 bg_25
set_option maxHeartbeats 4000000 in
theorem m363_27i {code : List Int} {inp : ByteArray} {pc : Int} {rg : List Int} {M : AV} {rd steps en : Int} {o : Bool} {go no : Nat} (na nb nc at_ : Nat) (xb : Int) (hnc : nc ≤ 65535) (hat : (xb + nc) % 4294967296 = at_) (x : Int) (hcx : code[at_]? = some x) (hpc0 : 0 ≤ pc) (hpc1 : pc ≤ 4294967296)  (hrl : rg.length = 16) (d : Nat) (hp1 : Hp) (hx : hp1 ⟨0, 13, 0⟩ = .box 1 (bxP code inp pc rg M rd steps en o go no) false) (ha : na < 16) (hb16 : nb < 16) (hgb : rg[nb]? = some xb) :
    ∃ hp', (lim Tryz.prog E00 X00).hpc 2 d 363 [.ptr ⟨0, 13, 0⟩ 1 0, .agg [iv 27, iv na, iv nb, iv nc]] hp1 = some (iv 0, hp') ∧ hp' ⟨0, 13, 0⟩ = .box 1 (bxP code inp (pc + 1) (rg.set na x) M rd steps en o go no) false ∧ ∀ y : Nm, y.d = 0 → y ≠ ⟨0, 13, 0⟩ → hp' y = hp1 y := by
  have key : ∃ z hp', (lim Tryz.prog E00 X00).hpc 2 d 363 [.ptr ⟨0, 13, 0⟩ 1 0, .agg [iv 27, iv na, iv nb, iv nc]] hp1 = some (z, hp') ∧ (z = iv 0 ∧ hp' ⟨0, 13, 0⟩ = .box 1 (bxP code inp (pc + 1) (rg.set na x) M rd steps en o go no) false ∧ ∀ y : Nm, y.d = 0 → y ≠ ⟨0, 13, 0⟩ → hp' y = hp1 y) := by
    refine lim_hpcW (R := fun z hp' => z = iv 0 ∧ hp' ⟨0, 13, 0⟩ = .box 1 (bxP code inp (pc + 1) (rg.set na x) M rd steps en o go no) false ∧ ∀ y : Nm, y.d = 0 → y ≠ ⟨0, 13, 0⟩ → hp' y = hp1 y) Tryz.func363 rfl rfl bodyOk_363 rfl rfl ?_
    have hNA := fun (k : Nat) (h : k < 16) => (⟨by omega, by omega⟩ : 3 + k ≤ 25 ∧ 3 + k < 26)
    try have hA := hNA _ ha
    try have hB := hNA _ hb16
    try have hC := hNA _ hc16
    clear hNA
    try have hga' := getV hga
    try have hgb' := getV hgb
    try have hgc' := getV hgc
    have hw : IntKind.i64.wrap (pc + 1) = pc + 1 := wrap64 (by omega) (by omega)
    obtain ⟨F, hF⟩ := skol (C := fun hp => hp ⟨0, 13, 0⟩ = .box 1 (bxP code inp pc rg M rd steps en o go no) false) (fun d hp (hc : hp ⟨0, 13, 0⟩ = .box 1 (bxP code inp pc rg M rd steps en o go no) false) => m400_27i na nb nc at_ xb hnc hat x hcx hrl d hp hc ha hb16 hgb)
    have f1 := fun d hp hc => (hF d hp hc).1
    have f2 := fun d hp hc => (hF d hp hc).2.1
    have f3 := fun d hp hc => (hF d hp hc).2.2
    clear hF
    exact step4
  obtain ⟨z, hp', h1, rfl, h2⟩ := key
  exact ⟨hp', h1, h2⟩
set_option maxHeartbeats 4000000 in
theorem m363_27o {code : List Int} {inp : ByteArray} {pc : Int} {rg : List Int} {M : AV} {rd steps en : Int} {o : Bool} {go no : Nat} (na nb nc at_ : Nat) (xb : Int) (hnc : nc ≤ 65535) (hat : (xb + nc) % 4294967296 = at_) (hcx : code.length ≤ at_) (hpc0 : 0 ≤ pc) (hpc1 : pc ≤ 4294967296)  (hrl : rg.length = 16) (d : Nat) (hp1 : Hp) (hx : hp1 ⟨0, 13, 0⟩ = .box 1 (bxP code inp pc rg M rd steps en o go no) false) (ha : na < 16) (hb16 : nb < 16) (hgb : rg[nb]? = some xb) :
    ∃ hp', (lim Tryz.prog E00 X00).hpc 2 d 363 [.ptr ⟨0, 13, 0⟩ 1 0, .agg [iv 27, iv na, iv nb, iv nc]] hp1 = some (iv 8, hp') ∧ hp' ⟨0, 13, 0⟩ = .box 1 (bxP code inp pc rg M rd steps en o go no) false ∧ ∀ y : Nm, y.d = 0 → y ≠ ⟨0, 13, 0⟩ → hp' y = hp1 y := by
  have key : ∃ z hp', (lim Tryz.prog E00 X00).hpc 2 d 363 [.ptr ⟨0, 13, 0⟩ 1 0, .agg [iv 27, iv na, iv nb, iv nc]] hp1 = some (z, hp') ∧ (z = iv 8 ∧ hp' ⟨0, 13, 0⟩ = .box 1 (bxP code inp pc rg M rd steps en o go no) false ∧ ∀ y : Nm, y.d = 0 → y ≠ ⟨0, 13, 0⟩ → hp' y = hp1 y) := by
    refine lim_hpcW (R := fun z hp' => z = iv 8 ∧ hp' ⟨0, 13, 0⟩ = .box 1 (bxP code inp pc rg M rd steps en o go no) false ∧ ∀ y : Nm, y.d = 0 → y ≠ ⟨0, 13, 0⟩ → hp' y = hp1 y) Tryz.func363 rfl rfl bodyOk_363 rfl rfl ?_
    have hNA := fun (k : Nat) (h : k < 16) => (⟨by omega, by omega⟩ : 3 + k ≤ 25 ∧ 3 + k < 26)
    try have hA := hNA _ ha
    try have hB := hNA _ hb16
    try have hC := hNA _ hc16
    clear hNA
    try have hga' := getV hga
    try have hgb' := getV hgb
    try have hgc' := getV hgc
    have hw : IntKind.i64.wrap (pc + 1) = pc + 1 := wrap64 (by omega) (by omega)
    obtain ⟨F, hF⟩ := skol (C := fun hp => hp ⟨0, 13, 0⟩ = .box 1 (bxP code inp pc rg M rd steps en o go no) false) (fun d hp (hc : hp ⟨0, 13, 0⟩ = .box 1 (bxP code inp pc rg M rd steps en o go no) false) => m400_27o na nb nc at_ xb hnc hat hcx hrl d hp hc ha hb16 hgb)
    have f1 := fun d hp hc => (hF d hp hc).1
    have f2 := fun d hp hc => (hF d hp hc).2.1
    have f3 := fun d hp hc => (hF d hp hc).2.2
    clear hF
    exact step4
  obtain ⟨z, hp', h1, rfl, h2⟩ := key
  exact ⟨hp', h1, h2⟩
set_option maxHeartbeats 4000000 in
theorem m363_16is {code : List Int} {inp : ByteArray} {pc : Int} {rg : List Int} {M : AV} {rd steps en : Int} {o : Bool} {go no : Nat} (na nb nc at_ : Nat) (xb : Int) (hnc : nc ≤ 65535) (hat : (xb + nc) % 4294967296 = at_) (mem : List Int) (gm : Nat) (hM : M = .sl false 1 (rowW mem)) (x : Int) (hcx : mem[at_]? = some x) (hpc0 : 0 ≤ pc) (hpc1 : pc ≤ 4294967296)  (hrl : rg.length = 16) (d : Nat) (hp1 : Hp) (hx : hp1 ⟨0, 13, 0⟩ = .box 1 (bxP code inp pc rg M rd steps en o go no) false) (ha : na < 16) (hb16 : nb < 16) (hgb : rg[nb]? = some xb)  :
    ∃ hp', (lim Tryz.prog E00 X00).hpc 2 d 363 [.ptr ⟨0, 13, 0⟩ 1 0, .agg [iv 16, iv na, iv nb, iv nc]] hp1 = some (iv 0, hp') ∧ hp' ⟨0, 13, 0⟩ = .box 1 (bxP code inp (pc + 1) (rg.set na x) M rd steps en o go no) false ∧ ∀ y : Nm, y.d = 0 → y ≠ ⟨0, 13, 0⟩ → hp' y = hp1 y := by
  have key : ∃ z hp', (lim Tryz.prog E00 X00).hpc 2 d 363 [.ptr ⟨0, 13, 0⟩ 1 0, .agg [iv 16, iv na, iv nb, iv nc]] hp1 = some (z, hp') ∧ (z = iv 0 ∧ hp' ⟨0, 13, 0⟩ = .box 1 (bxP code inp (pc + 1) (rg.set na x) M rd steps en o go no) false ∧ ∀ y : Nm, y.d = 0 → y ≠ ⟨0, 13, 0⟩ → hp' y = hp1 y) := by
    refine lim_hpcW (R := fun z hp' => z = iv 0 ∧ hp' ⟨0, 13, 0⟩ = .box 1 (bxP code inp (pc + 1) (rg.set na x) M rd steps en o go no) false ∧ ∀ y : Nm, y.d = 0 → y ≠ ⟨0, 13, 0⟩ → hp' y = hp1 y) Tryz.func363 rfl rfl bodyOk_363 rfl rfl ?_
    have hNA := fun (k : Nat) (h : k < 16) => (⟨by omega, by omega⟩ : 3 + k ≤ 25 ∧ 3 + k < 26)
    try have hA := hNA _ ha
    try have hB := hNA _ hb16
    try have hC := hNA _ hc16
    clear hNA
    try have hga' := getV hga
    try have hgb' := getV hgb
    try have hgc' := getV hgc
    have hw : IntKind.i64.wrap (pc + 1) = pc + 1 := wrap64 (by omega) (by omega)
    obtain ⟨F, hF⟩ := skol (C := fun hp => hp ⟨0, 13, 0⟩ = .box 1 (bxP code inp pc rg M rd steps en o go no) false) (fun d hp (hc : hp ⟨0, 13, 0⟩ = .box 1 (bxP code inp pc rg M rd steps en o go no) false) => m400_16is na nb nc at_ xb hnc hat mem gm hM x hcx hrl d hp hc ha hb16 hgb)
    have f1 := fun d hp hc => (hF d hp hc).1
    have f2 := fun d hp hc => (hF d hp hc).2.1
    have f3 := fun d hp hc => (hF d hp hc).2.2
    clear hF
    exact step4
  obtain ⟨z, hp', h1, rfl, h2⟩ := key
  exact ⟨hp', h1, h2⟩
set_option maxHeartbeats 4000000 in
theorem m363_16os {code : List Int} {inp : ByteArray} {pc : Int} {rg : List Int} {M : AV} {rd steps en : Int} {o : Bool} {go no : Nat} (na nb nc at_ : Nat) (xb : Int) (hnc : nc ≤ 65535) (hat : (xb + nc) % 4294967296 = at_) (mem : List Int) (gm : Nat) (hM : M = .sl false 1 (rowW mem)) (hcx : mem.length ≤ at_) (hpc0 : 0 ≤ pc) (hpc1 : pc ≤ 4294967296)  (hrl : rg.length = 16) (d : Nat) (hp1 : Hp) (hx : hp1 ⟨0, 13, 0⟩ = .box 1 (bxP code inp pc rg M rd steps en o go no) false) (ha : na < 16) (hb16 : nb < 16) (hgb : rg[nb]? = some xb)  :
    ∃ hp', (lim Tryz.prog E00 X00).hpc 2 d 363 [.ptr ⟨0, 13, 0⟩ 1 0, .agg [iv 16, iv na, iv nb, iv nc]] hp1 = some (iv 8, hp') ∧ hp' ⟨0, 13, 0⟩ = .box 1 (bxP code inp pc rg M rd steps en o go no) false ∧ ∀ y : Nm, y.d = 0 → y ≠ ⟨0, 13, 0⟩ → hp' y = hp1 y := by
  have key : ∃ z hp', (lim Tryz.prog E00 X00).hpc 2 d 363 [.ptr ⟨0, 13, 0⟩ 1 0, .agg [iv 16, iv na, iv nb, iv nc]] hp1 = some (z, hp') ∧ (z = iv 8 ∧ hp' ⟨0, 13, 0⟩ = .box 1 (bxP code inp pc rg M rd steps en o go no) false ∧ ∀ y : Nm, y.d = 0 → y ≠ ⟨0, 13, 0⟩ → hp' y = hp1 y) := by
    refine lim_hpcW (R := fun z hp' => z = iv 8 ∧ hp' ⟨0, 13, 0⟩ = .box 1 (bxP code inp pc rg M rd steps en o go no) false ∧ ∀ y : Nm, y.d = 0 → y ≠ ⟨0, 13, 0⟩ → hp' y = hp1 y) Tryz.func363 rfl rfl bodyOk_363 rfl rfl ?_
    have hNA := fun (k : Nat) (h : k < 16) => (⟨by omega, by omega⟩ : 3 + k ≤ 25 ∧ 3 + k < 26)
    try have hA := hNA _ ha
    try have hB := hNA _ hb16
    try have hC := hNA _ hc16
    clear hNA
    try have hga' := getV hga
    try have hgb' := getV hgb
    try have hgc' := getV hgc
    have hw : IntKind.i64.wrap (pc + 1) = pc + 1 := wrap64 (by omega) (by omega)
    obtain ⟨F, hF⟩ := skol (C := fun hp => hp ⟨0, 13, 0⟩ = .box 1 (bxP code inp pc rg M rd steps en o go no) false) (fun d hp (hc : hp ⟨0, 13, 0⟩ = .box 1 (bxP code inp pc rg M rd steps en o go no) false) => m400_16os na nb nc at_ xb hnc hat mem gm hM hcx hrl d hp hc ha hb16 hgb)
    have f1 := fun d hp hc => (hF d hp hc).1
    have f2 := fun d hp hc => (hF d hp hc).2.1
    have f3 := fun d hp hc => (hF d hp hc).2.2
    clear hF
    exact step4
  obtain ⟨z, hp', h1, rfl, h2⟩ := key
  exact ⟨hp', h1, h2⟩
set_option maxHeartbeats 4000000 in
theorem m363_17os {code : List Int} {inp : ByteArray} {pc : Int} {rg : List Int} {M : AV} {rd steps en : Int} {o : Bool} {go no : Nat} (na nb nc at_ : Nat) (xb : Int) (hnc : nc ≤ 65535) (hat : (xb + nc) % 4294967296 = at_) (mem : List Int) (gm : Nat) (hM : M = .sl false 1 (rowW mem)) (hcx : mem.length ≤ at_) (hpc0 : 0 ≤ pc) (hpc1 : pc ≤ 4294967296)  (hrl : rg.length = 16) (d : Nat) (hp1 : Hp) (hx : hp1 ⟨0, 13, 0⟩ = .box 1 (bxP code inp pc rg M rd steps en o go no) false) (ha : na < 16) (hb16 : nb < 16) (hgb : rg[nb]? = some xb)  :
    ∃ hp', (lim Tryz.prog E00 X00).hpc 2 d 363 [.ptr ⟨0, 13, 0⟩ 1 0, .agg [iv 17, iv na, iv nb, iv nc]] hp1 = some (iv 8, hp') ∧ hp' ⟨0, 13, 0⟩ = .box 1 (bxP code inp pc rg M rd steps en o go no) false ∧ ∀ y : Nm, y.d = 0 → y ≠ ⟨0, 13, 0⟩ → hp' y = hp1 y := by
  have key : ∃ z hp', (lim Tryz.prog E00 X00).hpc 2 d 363 [.ptr ⟨0, 13, 0⟩ 1 0, .agg [iv 17, iv na, iv nb, iv nc]] hp1 = some (z, hp') ∧ (z = iv 8 ∧ hp' ⟨0, 13, 0⟩ = .box 1 (bxP code inp pc rg M rd steps en o go no) false ∧ ∀ y : Nm, y.d = 0 → y ≠ ⟨0, 13, 0⟩ → hp' y = hp1 y) := by
    refine lim_hpcW (R := fun z hp' => z = iv 8 ∧ hp' ⟨0, 13, 0⟩ = .box 1 (bxP code inp pc rg M rd steps en o go no) false ∧ ∀ y : Nm, y.d = 0 → y ≠ ⟨0, 13, 0⟩ → hp' y = hp1 y) Tryz.func363 rfl rfl bodyOk_363 rfl rfl ?_
    have hNA := fun (k : Nat) (h : k < 16) => (⟨by omega, by omega⟩ : 3 + k ≤ 25 ∧ 3 + k < 26)
    try have hA := hNA _ ha
    try have hB := hNA _ hb16
    try have hC := hNA _ hc16
    clear hNA
    try have hga' := getV hga
    try have hgb' := getV hgb
    try have hgc' := getV hgc
    have hw : IntKind.i64.wrap (pc + 1) = pc + 1 := wrap64 (by omega) (by omega)
    obtain ⟨F, hF⟩ := skol (C := fun hp => hp ⟨0, 13, 0⟩ = .box 1 (bxP code inp pc rg M rd steps en o go no) false) (fun d hp (hc : hp ⟨0, 13, 0⟩ = .box 1 (bxP code inp pc rg M rd steps en o go no) false) => m400_17os na nb nc at_ xb hnc hat mem gm hM hcx hrl d hp hc ha hb16 hgb)
    have f1 := fun d hp hc => (hF d hp hc).1
    have f2 := fun d hp hc => (hF d hp hc).2.1
    have f3 := fun d hp hc => (hF d hp hc).2.2
    clear hF
    exact step4
  obtain ⟨z, hp', h1, rfl, h2⟩ := key
  exact ⟨hp', h1, h2⟩
set_option maxHeartbeats 4000000 in
theorem m363_17is {code : List Int} {inp : ByteArray} {pc : Int} {rg : List Int} {M : AV} {rd steps en : Int} {o : Bool} {go no : Nat} (na nb nc at_ : Nat) (xa xb : Int) (hnc : nc ≤ 65535) (hat : (xb + nc) % 4294967296 = at_) (mem : List Int) (gm : Nat) (hM : M = .sl false 1 (rowW mem)) (ho : o = false) (hml0 : mem.length ≤ 1048576) (hcx : at_ < mem.length) (hpc0 : 0 ≤ pc) (hpc1 : pc ≤ 4294967296)  (hrl : rg.length = 16) (d : Nat) (hp1 : Hp) (hx : hp1 ⟨0, 13, 0⟩ = .box 1 (bxP code inp pc rg M rd steps en o go no) false) (ha : na < 16) (hb16 : nb < 16) (hga : rg[na]? = some xa) (hgb : rg[nb]? = some xb)  :
    ∃ hp', (lim Tryz.prog E00 X00).hpc 2 d 363 [.ptr ⟨0, 13, 0⟩ 1 0, .agg [iv 17, iv na, iv nb, iv nc]] hp1 = some (iv 0, hp') ∧ hp' ⟨0, 13, 0⟩ = .box 1 (bxP code inp (pc + 1) rg (.own ⟨0, 13, 20⟩ ((hp1 ⟨0, 13, 20⟩).gen + 1) mem.length) rd steps en true go no) false ∧ hp' ⟨0, 13, 20⟩ = .arr ((hp1 ⟨0, 13, 20⟩).gen + 1) 1 32 (rowW (mem.set at_ xa)) false ∧ ∀ y : Nm, y.d = 0 → y ≠ ⟨0, 13, 0⟩ → y ≠ ⟨0, 13, 20⟩ → hp' y = hp1 y := by
  have key : ∃ z hp', (lim Tryz.prog E00 X00).hpc 2 d 363 [.ptr ⟨0, 13, 0⟩ 1 0, .agg [iv 17, iv na, iv nb, iv nc]] hp1 = some (z, hp') ∧ (z = iv 0 ∧ hp' ⟨0, 13, 0⟩ = .box 1 (bxP code inp (pc + 1) rg (.own ⟨0, 13, 20⟩ ((hp1 ⟨0, 13, 20⟩).gen + 1) mem.length) rd steps en true go no) false ∧ hp' ⟨0, 13, 20⟩ = .arr ((hp1 ⟨0, 13, 20⟩).gen + 1) 1 32 (rowW (mem.set at_ xa)) false ∧ ∀ y : Nm, y.d = 0 → y ≠ ⟨0, 13, 0⟩ → y ≠ ⟨0, 13, 20⟩ → hp' y = hp1 y) := by
    refine lim_hpcW (R := fun z hp' => z = iv 0 ∧ hp' ⟨0, 13, 0⟩ = .box 1 (bxP code inp (pc + 1) rg (.own ⟨0, 13, 20⟩ ((hp1 ⟨0, 13, 20⟩).gen + 1) mem.length) rd steps en true go no) false ∧ hp' ⟨0, 13, 20⟩ = .arr ((hp1 ⟨0, 13, 20⟩).gen + 1) 1 32 (rowW (mem.set at_ xa)) false ∧ ∀ y : Nm, y.d = 0 → y ≠ ⟨0, 13, 0⟩ → y ≠ ⟨0, 13, 20⟩ → hp' y = hp1 y) Tryz.func363 rfl rfl bodyOk_363 rfl rfl ?_
    have hNA := fun (k : Nat) (h : k < 16) => (⟨by omega, by omega⟩ : 3 + k ≤ 25 ∧ 3 + k < 26)
    try have hA := hNA _ ha
    try have hB := hNA _ hb16
    try have hC := hNA _ hc16
    clear hNA
    try have hga' := getV hga
    try have hgb' := getV hgb
    try have hgc' := getV hgc
    have hw : IntKind.i64.wrap (pc + 1) = pc + 1 := wrap64 (by omega) (by omega)
    obtain ⟨F, hF⟩ := skol (C := fun hp => hp ⟨0, 13, 0⟩ = .box 1 (bxP code inp pc rg M rd steps en o go no) false) (fun d hp (hc : hp ⟨0, 13, 0⟩ = .box 1 (bxP code inp pc rg M rd steps en o go no) false) => m400_17is na nb nc at_ xa xb hnc hat mem gm hM ho hml0 hcx hrl d hp hc ha hb16 hga hgb)
    have f1 := fun d hp hc => (hF d hp hc).1
    have f2 := fun d hp hc => (hF d hp hc).2.1
    have f4 := fun d hp hc => (hF d hp hc).2.2.1
    have f3 := fun d hp hc => (hF d hp hc).2.2.2
    clear hF
    exact step5
  obtain ⟨z, hp', h1, rfl, h2⟩ := key
  exact ⟨hp', h1, h2⟩
set_option maxHeartbeats 4000000 in
theorem m363_16iw {code : List Int} {inp : ByteArray} {pc : Int} {rg : List Int} {M : AV} {rd steps en : Int} {o : Bool} {go no : Nat} (na nb nc at_ : Nat) (xb : Int) (hnc : nc ≤ 65535) (hat : (xb + nc) % 4294967296 = at_) (mem : List Int) (gm : Nat) (hM : M = .own ⟨0, 13, 20⟩ gm mem.length) (x : Int) (hcx : mem[at_]? = some x) (hpc0 : 0 ≤ pc) (hpc1 : pc ≤ 4294967296)  (hrl : rg.length = 16) (d : Nat) (hp1 : Hp) (hx : hp1 ⟨0, 13, 0⟩ = .box 1 (bxP code inp pc rg M rd steps en o go no) false) (ha : na < 16) (hb16 : nb < 16) (hgb : rg[nb]? = some xb) (hm : hp1 ⟨0, 13, 20⟩ = .arr gm 1 32 (rowW mem) false) :
    ∃ hp', (lim Tryz.prog E00 X00).hpc 2 d 363 [.ptr ⟨0, 13, 0⟩ 1 0, .agg [iv 16, iv na, iv nb, iv nc]] hp1 = some (iv 0, hp') ∧ hp' ⟨0, 13, 0⟩ = .box 1 (bxP code inp (pc + 1) (rg.set na x) M rd steps en o go no) false ∧ ∀ y : Nm, y.d = 0 → y ≠ ⟨0, 13, 0⟩ → hp' y = hp1 y := by
  have key : ∃ z hp', (lim Tryz.prog E00 X00).hpc 2 d 363 [.ptr ⟨0, 13, 0⟩ 1 0, .agg [iv 16, iv na, iv nb, iv nc]] hp1 = some (z, hp') ∧ (z = iv 0 ∧ hp' ⟨0, 13, 0⟩ = .box 1 (bxP code inp (pc + 1) (rg.set na x) M rd steps en o go no) false ∧ ∀ y : Nm, y.d = 0 → y ≠ ⟨0, 13, 0⟩ → hp' y = hp1 y) := by
    refine lim_hpcW (R := fun z hp' => z = iv 0 ∧ hp' ⟨0, 13, 0⟩ = .box 1 (bxP code inp (pc + 1) (rg.set na x) M rd steps en o go no) false ∧ ∀ y : Nm, y.d = 0 → y ≠ ⟨0, 13, 0⟩ → hp' y = hp1 y) Tryz.func363 rfl rfl bodyOk_363 rfl rfl ?_
    have hNA := fun (k : Nat) (h : k < 16) => (⟨by omega, by omega⟩ : 3 + k ≤ 25 ∧ 3 + k < 26)
    try have hA := hNA _ ha
    try have hB := hNA _ hb16
    try have hC := hNA _ hc16
    clear hNA
    try have hga' := getV hga
    try have hgb' := getV hgb
    try have hgc' := getV hgc
    have hw : IntKind.i64.wrap (pc + 1) = pc + 1 := wrap64 (by omega) (by omega)
    obtain ⟨F, hF⟩ := skol (C := fun hp => hp ⟨0, 13, 0⟩ = .box 1 (bxP code inp pc rg M rd steps en o go no) false ∧ hp ⟨0, 13, 20⟩ = .arr gm 1 32 (rowW mem) false) (fun d hp (hc : hp ⟨0, 13, 0⟩ = .box 1 (bxP code inp pc rg M rd steps en o go no) false ∧ hp ⟨0, 13, 20⟩ = .arr gm 1 32 (rowW mem) false) => m400_16iw na nb nc at_ xb hnc hat mem gm hM x hcx hrl d hp hc.1 ha hb16 hgb hc.2)
    have f1 := fun d hp hc => (hF d hp hc).1
    have f2 := fun d hp hc => (hF d hp hc).2.1
    have f3 := fun d hp hc => (hF d hp hc).2.2
    clear hF
    exact step4
  obtain ⟨z, hp', h1, rfl, h2⟩ := key
  exact ⟨hp', h1, h2⟩
set_option maxHeartbeats 4000000 in
theorem m363_16ow {code : List Int} {inp : ByteArray} {pc : Int} {rg : List Int} {M : AV} {rd steps en : Int} {o : Bool} {go no : Nat} (na nb nc at_ : Nat) (xb : Int) (hnc : nc ≤ 65535) (hat : (xb + nc) % 4294967296 = at_) (mem : List Int) (gm : Nat) (hM : M = .own ⟨0, 13, 20⟩ gm mem.length) (hcx : mem.length ≤ at_) (hpc0 : 0 ≤ pc) (hpc1 : pc ≤ 4294967296)  (hrl : rg.length = 16) (d : Nat) (hp1 : Hp) (hx : hp1 ⟨0, 13, 0⟩ = .box 1 (bxP code inp pc rg M rd steps en o go no) false) (ha : na < 16) (hb16 : nb < 16) (hgb : rg[nb]? = some xb) (hm : hp1 ⟨0, 13, 20⟩ = .arr gm 1 32 (rowW mem) false) :
    ∃ hp', (lim Tryz.prog E00 X00).hpc 2 d 363 [.ptr ⟨0, 13, 0⟩ 1 0, .agg [iv 16, iv na, iv nb, iv nc]] hp1 = some (iv 8, hp') ∧ hp' ⟨0, 13, 0⟩ = .box 1 (bxP code inp pc rg M rd steps en o go no) false ∧ ∀ y : Nm, y.d = 0 → y ≠ ⟨0, 13, 0⟩ → hp' y = hp1 y := by
  have key : ∃ z hp', (lim Tryz.prog E00 X00).hpc 2 d 363 [.ptr ⟨0, 13, 0⟩ 1 0, .agg [iv 16, iv na, iv nb, iv nc]] hp1 = some (z, hp') ∧ (z = iv 8 ∧ hp' ⟨0, 13, 0⟩ = .box 1 (bxP code inp pc rg M rd steps en o go no) false ∧ ∀ y : Nm, y.d = 0 → y ≠ ⟨0, 13, 0⟩ → hp' y = hp1 y) := by
    refine lim_hpcW (R := fun z hp' => z = iv 8 ∧ hp' ⟨0, 13, 0⟩ = .box 1 (bxP code inp pc rg M rd steps en o go no) false ∧ ∀ y : Nm, y.d = 0 → y ≠ ⟨0, 13, 0⟩ → hp' y = hp1 y) Tryz.func363 rfl rfl bodyOk_363 rfl rfl ?_
    have hNA := fun (k : Nat) (h : k < 16) => (⟨by omega, by omega⟩ : 3 + k ≤ 25 ∧ 3 + k < 26)
    try have hA := hNA _ ha
    try have hB := hNA _ hb16
    try have hC := hNA _ hc16
    clear hNA
    try have hga' := getV hga
    try have hgb' := getV hgb
    try have hgc' := getV hgc
    have hw : IntKind.i64.wrap (pc + 1) = pc + 1 := wrap64 (by omega) (by omega)
    obtain ⟨F, hF⟩ := skol (C := fun hp => hp ⟨0, 13, 0⟩ = .box 1 (bxP code inp pc rg M rd steps en o go no) false ∧ hp ⟨0, 13, 20⟩ = .arr gm 1 32 (rowW mem) false) (fun d hp (hc : hp ⟨0, 13, 0⟩ = .box 1 (bxP code inp pc rg M rd steps en o go no) false ∧ hp ⟨0, 13, 20⟩ = .arr gm 1 32 (rowW mem) false) => m400_16ow na nb nc at_ xb hnc hat mem gm hM hcx hrl d hp hc.1 ha hb16 hgb hc.2)
    have f1 := fun d hp hc => (hF d hp hc).1
    have f2 := fun d hp hc => (hF d hp hc).2.1
    have f3 := fun d hp hc => (hF d hp hc).2.2
    clear hF
    exact step4
  obtain ⟨z, hp', h1, rfl, h2⟩ := key
  exact ⟨hp', h1, h2⟩
set_option maxHeartbeats 4000000 in
theorem m363_17ow {code : List Int} {inp : ByteArray} {pc : Int} {rg : List Int} {M : AV} {rd steps en : Int} {o : Bool} {go no : Nat} (na nb nc at_ : Nat) (xb : Int) (hnc : nc ≤ 65535) (hat : (xb + nc) % 4294967296 = at_) (mem : List Int) (gm : Nat) (hM : M = .own ⟨0, 13, 20⟩ gm mem.length) (hcx : mem.length ≤ at_) (hpc0 : 0 ≤ pc) (hpc1 : pc ≤ 4294967296)  (hrl : rg.length = 16) (d : Nat) (hp1 : Hp) (hx : hp1 ⟨0, 13, 0⟩ = .box 1 (bxP code inp pc rg M rd steps en o go no) false) (ha : na < 16) (hb16 : nb < 16) (hgb : rg[nb]? = some xb) (hm : hp1 ⟨0, 13, 20⟩ = .arr gm 1 32 (rowW mem) false) :
    ∃ hp', (lim Tryz.prog E00 X00).hpc 2 d 363 [.ptr ⟨0, 13, 0⟩ 1 0, .agg [iv 17, iv na, iv nb, iv nc]] hp1 = some (iv 8, hp') ∧ hp' ⟨0, 13, 0⟩ = .box 1 (bxP code inp pc rg M rd steps en o go no) false ∧ ∀ y : Nm, y.d = 0 → y ≠ ⟨0, 13, 0⟩ → hp' y = hp1 y := by
  have key : ∃ z hp', (lim Tryz.prog E00 X00).hpc 2 d 363 [.ptr ⟨0, 13, 0⟩ 1 0, .agg [iv 17, iv na, iv nb, iv nc]] hp1 = some (z, hp') ∧ (z = iv 8 ∧ hp' ⟨0, 13, 0⟩ = .box 1 (bxP code inp pc rg M rd steps en o go no) false ∧ ∀ y : Nm, y.d = 0 → y ≠ ⟨0, 13, 0⟩ → hp' y = hp1 y) := by
    refine lim_hpcW (R := fun z hp' => z = iv 8 ∧ hp' ⟨0, 13, 0⟩ = .box 1 (bxP code inp pc rg M rd steps en o go no) false ∧ ∀ y : Nm, y.d = 0 → y ≠ ⟨0, 13, 0⟩ → hp' y = hp1 y) Tryz.func363 rfl rfl bodyOk_363 rfl rfl ?_
    have hNA := fun (k : Nat) (h : k < 16) => (⟨by omega, by omega⟩ : 3 + k ≤ 25 ∧ 3 + k < 26)
    try have hA := hNA _ ha
    try have hB := hNA _ hb16
    try have hC := hNA _ hc16
    clear hNA
    try have hga' := getV hga
    try have hgb' := getV hgb
    try have hgc' := getV hgc
    have hw : IntKind.i64.wrap (pc + 1) = pc + 1 := wrap64 (by omega) (by omega)
    obtain ⟨F, hF⟩ := skol (C := fun hp => hp ⟨0, 13, 0⟩ = .box 1 (bxP code inp pc rg M rd steps en o go no) false ∧ hp ⟨0, 13, 20⟩ = .arr gm 1 32 (rowW mem) false) (fun d hp (hc : hp ⟨0, 13, 0⟩ = .box 1 (bxP code inp pc rg M rd steps en o go no) false ∧ hp ⟨0, 13, 20⟩ = .arr gm 1 32 (rowW mem) false) => m400_17ow na nb nc at_ xb hnc hat mem gm hM hcx hrl d hp hc.1 ha hb16 hgb hc.2)
    have f1 := fun d hp hc => (hF d hp hc).1
    have f2 := fun d hp hc => (hF d hp hc).2.1
    have f3 := fun d hp hc => (hF d hp hc).2.2
    clear hF
    exact step4
  obtain ⟨z, hp', h1, rfl, h2⟩ := key
  exact ⟨hp', h1, h2⟩
set_option maxHeartbeats 4000000 in
theorem m363_17iw {code : List Int} {inp : ByteArray} {pc : Int} {rg : List Int} {M : AV} {rd steps en : Int} {o : Bool} {go no : Nat} (na nb nc at_ : Nat) (xa xb : Int) (hnc : nc ≤ 65535) (hat : (xb + nc) % 4294967296 = at_) (mem : List Int) (gm : Nat) (hM : M = .own ⟨0, 13, 20⟩ gm mem.length) (ho : o = true) (hml0 : mem.length ≤ 1048576) (hcx : at_ < mem.length) (hpc0 : 0 ≤ pc) (hpc1 : pc ≤ 4294967296)  (hrl : rg.length = 16) (d : Nat) (hp1 : Hp) (hx : hp1 ⟨0, 13, 0⟩ = .box 1 (bxP code inp pc rg M rd steps en o go no) false) (ha : na < 16) (hb16 : nb < 16) (hga : rg[na]? = some xa) (hgb : rg[nb]? = some xb) (hm : hp1 ⟨0, 13, 20⟩ = .arr gm 1 32 (rowW mem) false) :
    ∃ hp', (lim Tryz.prog E00 X00).hpc 2 d 363 [.ptr ⟨0, 13, 0⟩ 1 0, .agg [iv 17, iv na, iv nb, iv nc]] hp1 = some (iv 0, hp') ∧ hp' ⟨0, 13, 0⟩ = .box 1 (bxP code inp (pc + 1) rg (.own ⟨0, 13, 20⟩ gm mem.length) rd steps en true go no) false ∧ hp' ⟨0, 13, 20⟩ = .arr gm 1 32 (rowW (mem.set at_ xa)) false ∧ ∀ y : Nm, y.d = 0 → y ≠ ⟨0, 13, 0⟩ → y ≠ ⟨0, 13, 20⟩ → hp' y = hp1 y := by
  have key : ∃ z hp', (lim Tryz.prog E00 X00).hpc 2 d 363 [.ptr ⟨0, 13, 0⟩ 1 0, .agg [iv 17, iv na, iv nb, iv nc]] hp1 = some (z, hp') ∧ (z = iv 0 ∧ hp' ⟨0, 13, 0⟩ = .box 1 (bxP code inp (pc + 1) rg (.own ⟨0, 13, 20⟩ gm mem.length) rd steps en true go no) false ∧ hp' ⟨0, 13, 20⟩ = .arr gm 1 32 (rowW (mem.set at_ xa)) false ∧ ∀ y : Nm, y.d = 0 → y ≠ ⟨0, 13, 0⟩ → y ≠ ⟨0, 13, 20⟩ → hp' y = hp1 y) := by
    refine lim_hpcW (R := fun z hp' => z = iv 0 ∧ hp' ⟨0, 13, 0⟩ = .box 1 (bxP code inp (pc + 1) rg (.own ⟨0, 13, 20⟩ gm mem.length) rd steps en true go no) false ∧ hp' ⟨0, 13, 20⟩ = .arr gm 1 32 (rowW (mem.set at_ xa)) false ∧ ∀ y : Nm, y.d = 0 → y ≠ ⟨0, 13, 0⟩ → y ≠ ⟨0, 13, 20⟩ → hp' y = hp1 y) Tryz.func363 rfl rfl bodyOk_363 rfl rfl ?_
    have hNA := fun (k : Nat) (h : k < 16) => (⟨by omega, by omega⟩ : 3 + k ≤ 25 ∧ 3 + k < 26)
    try have hA := hNA _ ha
    try have hB := hNA _ hb16
    try have hC := hNA _ hc16
    clear hNA
    try have hga' := getV hga
    try have hgb' := getV hgb
    try have hgc' := getV hgc
    have hw : IntKind.i64.wrap (pc + 1) = pc + 1 := wrap64 (by omega) (by omega)
    obtain ⟨F, hF⟩ := skol (C := fun hp => hp ⟨0, 13, 0⟩ = .box 1 (bxP code inp pc rg M rd steps en o go no) false ∧ hp ⟨0, 13, 20⟩ = .arr gm 1 32 (rowW mem) false) (fun d hp (hc : hp ⟨0, 13, 0⟩ = .box 1 (bxP code inp pc rg M rd steps en o go no) false ∧ hp ⟨0, 13, 20⟩ = .arr gm 1 32 (rowW mem) false) => m400_17iw na nb nc at_ xa xb hnc hat mem gm hM ho hml0 hcx hrl d hp hc.1 ha hb16 hga hgb hc.2)
    have f1 := fun d hp hc => (hF d hp hc).1
    have f2 := fun d hp hc => (hF d hp hc).2.1
    have f4 := fun d hp hc => (hF d hp hc).2.2.1
    have f3 := fun d hp hc => (hF d hp hc).2.2.2
    clear hF
    exact step5
  obtain ⟨z, hp', h1, rfl, h2⟩ := key
  exact ⟨hp', h1, h2⟩
set_option maxHeartbeats 4000000 in
theorem m363_23o {code : List Int} {inp : ByteArray} {pc : Int} {rg : List Int} {M : AV} {rd steps en : Int} {o : Bool} {go no : Nat} (na nb nc : Nat) (rdn : Nat) (hrd : rd = rdn) (hr1 : inp.size ≤ rdn) (hpc0 : 0 ≤ pc) (hpc1 : pc ≤ 4294967296)  (hrl : rg.length = 16) (d : Nat) (hp1 : Hp) (hx : hp1 ⟨0, 13, 0⟩ = .box 1 (bxP code inp pc rg M rd steps en o go no) false) (ha : na < 16) :
    ∃ hp', (lim Tryz.prog E00 X00).hpc 2 d 363 [.ptr ⟨0, 13, 0⟩ 1 0, .agg [iv 23, iv na, iv nb, iv nc]] hp1 = some (iv 0, hp') ∧ hp' ⟨0, 13, 0⟩ = .box 1 (bxP code inp (pc + 1) (rg.set na 256) M rd steps en o go no) false ∧ ∀ y : Nm, y.d = 0 → y ≠ ⟨0, 13, 0⟩ → hp' y = hp1 y := by
  have key : ∃ z hp', (lim Tryz.prog E00 X00).hpc 2 d 363 [.ptr ⟨0, 13, 0⟩ 1 0, .agg [iv 23, iv na, iv nb, iv nc]] hp1 = some (z, hp') ∧ (z = iv 0 ∧ hp' ⟨0, 13, 0⟩ = .box 1 (bxP code inp (pc + 1) (rg.set na 256) M rd steps en o go no) false ∧ ∀ y : Nm, y.d = 0 → y ≠ ⟨0, 13, 0⟩ → hp' y = hp1 y) := by
    refine lim_hpcW (R := fun z hp' => z = iv 0 ∧ hp' ⟨0, 13, 0⟩ = .box 1 (bxP code inp (pc + 1) (rg.set na 256) M rd steps en o go no) false ∧ ∀ y : Nm, y.d = 0 → y ≠ ⟨0, 13, 0⟩ → hp' y = hp1 y) Tryz.func363 rfl rfl bodyOk_363 rfl rfl ?_
    have hNA := fun (k : Nat) (h : k < 16) => (⟨by omega, by omega⟩ : 3 + k ≤ 25 ∧ 3 + k < 26)
    try have hA := hNA _ ha
    try have hB := hNA _ hb16
    try have hC := hNA _ hc16
    clear hNA
    try have hga' := getV hga
    try have hgb' := getV hgb
    try have hgc' := getV hgc
    have hw : IntKind.i64.wrap (pc + 1) = pc + 1 := wrap64 (by omega) (by omega)
    obtain ⟨F, hF⟩ := skol (C := fun hp => hp ⟨0, 13, 0⟩ = .box 1 (bxP code inp pc rg M rd steps en o go no) false) (fun d hp (hc : hp ⟨0, 13, 0⟩ = .box 1 (bxP code inp pc rg M rd steps en o go no) false) => m401_o na rdn hrd hr1 hrl d hp hc ha)
    have f1 := fun d hp hc => (hF d hp hc).1
    have f2 := fun d hp hc => (hF d hp hc).2.1
    have f3 := fun d hp hc => (hF d hp hc).2.2
    clear hF
    exact step4
  obtain ⟨z, hp', h1, rfl, h2⟩ := key
  exact ⟨hp', h1, h2⟩
set_option maxHeartbeats 4000000 in
theorem m363_23i {code : List Int} {inp : ByteArray} {pc : Int} {rg : List Int} {M : AV} {rd steps en : Int} {o : Bool} {go no : Nat} (na nb nc : Nat) (rdn : Nat) (hrd : rd = rdn) (b : UInt8) (hbb : inp.data[rdn]? = some b) (hsz : inp.size ≤ 1048576) (hpc0 : 0 ≤ pc) (hpc1 : pc ≤ 4294967296)  (hrl : rg.length = 16) (d : Nat) (hp1 : Hp) (hx : hp1 ⟨0, 13, 0⟩ = .box 1 (bxP code inp pc rg M rd steps en o go no) false) (ha : na < 16) :
    ∃ hp', (lim Tryz.prog E00 X00).hpc 2 d 363 [.ptr ⟨0, 13, 0⟩ 1 0, .agg [iv 23, iv na, iv nb, iv nc]] hp1 = some (iv 0, hp') ∧ hp' ⟨0, 13, 0⟩ = .box 1 (bxP code inp (pc + 1) (rg.set na (b.toNat : Int)) M ((rdn : Int) + 1) steps en o go no) false ∧ ∀ y : Nm, y.d = 0 → y ≠ ⟨0, 13, 0⟩ → hp' y = hp1 y := by
  have key : ∃ z hp', (lim Tryz.prog E00 X00).hpc 2 d 363 [.ptr ⟨0, 13, 0⟩ 1 0, .agg [iv 23, iv na, iv nb, iv nc]] hp1 = some (z, hp') ∧ (z = iv 0 ∧ hp' ⟨0, 13, 0⟩ = .box 1 (bxP code inp (pc + 1) (rg.set na (b.toNat : Int)) M ((rdn : Int) + 1) steps en o go no) false ∧ ∀ y : Nm, y.d = 0 → y ≠ ⟨0, 13, 0⟩ → hp' y = hp1 y) := by
    refine lim_hpcW (R := fun z hp' => z = iv 0 ∧ hp' ⟨0, 13, 0⟩ = .box 1 (bxP code inp (pc + 1) (rg.set na (b.toNat : Int)) M ((rdn : Int) + 1) steps en o go no) false ∧ ∀ y : Nm, y.d = 0 → y ≠ ⟨0, 13, 0⟩ → hp' y = hp1 y) Tryz.func363 rfl rfl bodyOk_363 rfl rfl ?_
    have hNA := fun (k : Nat) (h : k < 16) => (⟨by omega, by omega⟩ : 3 + k ≤ 25 ∧ 3 + k < 26)
    try have hA := hNA _ ha
    try have hB := hNA _ hb16
    try have hC := hNA _ hc16
    clear hNA
    try have hga' := getV hga
    try have hgb' := getV hgb
    try have hgc' := getV hgc
    have hw : IntKind.i64.wrap (pc + 1) = pc + 1 := wrap64 (by omega) (by omega)
    obtain ⟨F, hF⟩ := skol (C := fun hp => hp ⟨0, 13, 0⟩ = .box 1 (bxP code inp pc rg M rd steps en o go no) false) (fun d hp (hc : hp ⟨0, 13, 0⟩ = .box 1 (bxP code inp pc rg M rd steps en o go no) false) => m401_i na rdn hrd b hbb hsz hrl d hp hc ha)
    have f1 := fun d hp hc => (hF d hp hc).1
    have f2 := fun d hp hc => (hF d hp hc).2.1
    have f3 := fun d hp hc => (hF d hp hc).2.2
    clear hF
    exact step4
  obtain ⟨z, hp', h1, rfl, h2⟩ := key
  exact ⟨hp', h1, h2⟩
set_option maxHeartbeats 4000000 in
theorem m363_opi {code : List Int} {inp : ByteArray} {pc : Int} {rg : List Int} {M : AV} {rd steps en : Int} {o : Bool} {go no : Nat} (op na nb nc : Nat) (h4 : 4 ≤ op) (h15 : op ≤ 15) (xb xc : Int) (hxb : Ma.U xb) (hxc : Ma.U xc) (v : Int) (hv : apP op xb xc = some v) (hpc0 : 0 ≤ pc) (hpc1 : pc ≤ 4294967296)  (hrl : rg.length = 16) (d : Nat) (hp1 : Hp) (hx : hp1 ⟨0, 13, 0⟩ = .box 1 (bxP code inp pc rg M rd steps en o go no) false) (ha : na < 16) (hb16 : nb < 16) (hc16 : nc < 16) (hgb : rg[nb]? = some xb) (hgc : rg[nc]? = some xc) :
    ∃ hp', (lim Tryz.prog E00 X00).hpc 2 d 363 [.ptr ⟨0, 13, 0⟩ 1 0, .agg [iv op, iv na, iv nb, iv nc]] hp1 = some (iv 0, hp') ∧ hp' ⟨0, 13, 0⟩ = .box 1 (bxP code inp (pc + 1) (rg.set na v) M rd steps en o go no) false ∧ ∀ y : Nm, y.d = 0 → y ≠ ⟨0, 13, 0⟩ → hp' y = hp1 y := by
  have key : ∃ z hp', (lim Tryz.prog E00 X00).hpc 2 d 363 [.ptr ⟨0, 13, 0⟩ 1 0, .agg [iv op, iv na, iv nb, iv nc]] hp1 = some (z, hp') ∧ (z = iv 0 ∧ hp' ⟨0, 13, 0⟩ = .box 1 (bxP code inp (pc + 1) (rg.set na v) M rd steps en o go no) false ∧ ∀ y : Nm, y.d = 0 → y ≠ ⟨0, 13, 0⟩ → hp' y = hp1 y) := by
    refine lim_hpcW (R := fun z hp' => z = iv 0 ∧ hp' ⟨0, 13, 0⟩ = .box 1 (bxP code inp (pc + 1) (rg.set na v) M rd steps en o go no) false ∧ ∀ y : Nm, y.d = 0 → y ≠ ⟨0, 13, 0⟩ → hp' y = hp1 y) Tryz.func363 rfl rfl bodyOk_363 rfl rfl ?_
    have hNA := fun (k : Nat) (h : k < 16) => (⟨by omega, by omega⟩ : 3 + k ≤ 25 ∧ 3 + k < 26)
    try have hA := hNA _ ha
    try have hB := hNA _ hb16
    try have hC := hNA _ hc16
    clear hNA
    try have hga' := getV hga
    try have hgb' := getV hgb
    try have hgc' := getV hgc
    have hw : IntKind.i64.wrap (pc + 1) = pc + 1 := wrap64 (by omega) (by omega)
    have h402 := m402 op xb xc h4 h15 hxb hxc
    rw [hv] at h402
    simp only [Option.getD_some, Option.getD_none, Option.isSome_some, Option.isSome_none, if_true, if_false, Bool.false_eq_true] at h402
    have e18 : ((op : Int) == 18) = false := by rw [beq_dec]; exact decide_eq_false (by omega)
    have e19 : ((op : Int) == 19) = false := by rw [beq_dec]; exact decide_eq_false (by omega)
    have e20 : ((op : Int) == 20) = false := by rw [beq_dec]; exact decide_eq_false (by omega)
    have e21 : ((op : Int) == 21) = false := by rw [beq_dec]; exact decide_eq_false (by omega)
    have e22 : ((op : Int) == 22) = false := by rw [beq_dec]; exact decide_eq_false (by omega)
    have e1 : ((op : Int) == 1) = false := by rw [beq_dec]; exact decide_eq_false (by omega)
    have e2 : ((op : Int) == 2) = false := by rw [beq_dec]; exact decide_eq_false (by omega)
    have e3 : ((op : Int) == 3) = false := by rw [beq_dec]; exact decide_eq_false (by omega)
    have e16 : ((op : Int) == 16) = false := by rw [beq_dec]; exact decide_eq_false (by omega)
    have e17 : ((op : Int) == 17) = false := by rw [beq_dec]; exact decide_eq_false (by omega)
    have e27 : ((op : Int) == 27) = false := by rw [beq_dec]; exact decide_eq_false (by omega)
    have e23 : ((op : Int) == 23) = false := by rw [beq_dec]; exact decide_eq_false (by omega)
    have e24 : ((op : Int) == 24) = false := by rw [beq_dec]; exact decide_eq_false (by omega)
    have e25 : ((op : Int) == 25) = false := by rw [beq_dec]; exact decide_eq_false (by omega)
    have e26 : ((op : Int) == 26) = false := by rw [beq_dec]; exact decide_eq_false (by omega)
    clear hv hxb hxc h4 h15
    exact step2
  obtain ⟨z, hp', h1, rfl, h2⟩ := key
  exact ⟨hp', h1, h2⟩
set_option maxHeartbeats 4000000 in
theorem m363_opo {code : List Int} {inp : ByteArray} {pc : Int} {rg : List Int} {M : AV} {rd steps en : Int} {o : Bool} {go no : Nat} (op na nb nc : Nat) (h4 : 4 ≤ op) (h15 : op ≤ 15) (xb xc : Int) (hxb : Ma.U xb) (hxc : Ma.U xc) (hv : apP op xb xc = none) (hpc0 : 0 ≤ pc) (hpc1 : pc ≤ 4294967296)  (hrl : rg.length = 16) (d : Nat) (hp1 : Hp) (hx : hp1 ⟨0, 13, 0⟩ = .box 1 (bxP code inp pc rg M rd steps en o go no) false) (ha : na < 16) (hb16 : nb < 16) (hc16 : nc < 16) (hgb : rg[nb]? = some xb) (hgc : rg[nc]? = some xc) :
    ∃ hp', (lim Tryz.prog E00 X00).hpc 2 d 363 [.ptr ⟨0, 13, 0⟩ 1 0, .agg [iv op, iv na, iv nb, iv nc]] hp1 = some (iv 2, hp') ∧ hp' ⟨0, 13, 0⟩ = .box 1 (bxP code inp pc rg M rd steps en o go no) false ∧ ∀ y : Nm, y.d = 0 → y ≠ ⟨0, 13, 0⟩ → hp' y = hp1 y := by
  have key : ∃ z hp', (lim Tryz.prog E00 X00).hpc 2 d 363 [.ptr ⟨0, 13, 0⟩ 1 0, .agg [iv op, iv na, iv nb, iv nc]] hp1 = some (z, hp') ∧ (z = iv 2 ∧ hp' ⟨0, 13, 0⟩ = .box 1 (bxP code inp pc rg M rd steps en o go no) false ∧ ∀ y : Nm, y.d = 0 → y ≠ ⟨0, 13, 0⟩ → hp' y = hp1 y) := by
    refine lim_hpcW (R := fun z hp' => z = iv 2 ∧ hp' ⟨0, 13, 0⟩ = .box 1 (bxP code inp pc rg M rd steps en o go no) false ∧ ∀ y : Nm, y.d = 0 → y ≠ ⟨0, 13, 0⟩ → hp' y = hp1 y) Tryz.func363 rfl rfl bodyOk_363 rfl rfl ?_
    have hNA := fun (k : Nat) (h : k < 16) => (⟨by omega, by omega⟩ : 3 + k ≤ 25 ∧ 3 + k < 26)
    try have hA := hNA _ ha
    try have hB := hNA _ hb16
    try have hC := hNA _ hc16
    clear hNA
    try have hga' := getV hga
    try have hgb' := getV hgb
    try have hgc' := getV hgc
    have hw : IntKind.i64.wrap (pc + 1) = pc + 1 := wrap64 (by omega) (by omega)
    have h402 := m402 op xb xc h4 h15 hxb hxc
    rw [hv] at h402
    simp only [Option.getD_some, Option.getD_none, Option.isSome_some, Option.isSome_none, if_true, if_false, Bool.false_eq_true] at h402
    have e18 : ((op : Int) == 18) = false := by rw [beq_dec]; exact decide_eq_false (by omega)
    have e19 : ((op : Int) == 19) = false := by rw [beq_dec]; exact decide_eq_false (by omega)
    have e20 : ((op : Int) == 20) = false := by rw [beq_dec]; exact decide_eq_false (by omega)
    have e21 : ((op : Int) == 21) = false := by rw [beq_dec]; exact decide_eq_false (by omega)
    have e22 : ((op : Int) == 22) = false := by rw [beq_dec]; exact decide_eq_false (by omega)
    have e1 : ((op : Int) == 1) = false := by rw [beq_dec]; exact decide_eq_false (by omega)
    have e2 : ((op : Int) == 2) = false := by rw [beq_dec]; exact decide_eq_false (by omega)
    have e3 : ((op : Int) == 3) = false := by rw [beq_dec]; exact decide_eq_false (by omega)
    have e16 : ((op : Int) == 16) = false := by rw [beq_dec]; exact decide_eq_false (by omega)
    have e17 : ((op : Int) == 17) = false := by rw [beq_dec]; exact decide_eq_false (by omega)
    have e27 : ((op : Int) == 27) = false := by rw [beq_dec]; exact decide_eq_false (by omega)
    have e23 : ((op : Int) == 23) = false := by rw [beq_dec]; exact decide_eq_false (by omega)
    have e24 : ((op : Int) == 24) = false := by rw [beq_dec]; exact decide_eq_false (by omega)
    have e25 : ((op : Int) == 25) = false := by rw [beq_dec]; exact decide_eq_false (by omega)
    have e26 : ((op : Int) == 26) = false := by rw [beq_dec]; exact decide_eq_false (by omega)
    clear hv hxb hxc h4 h15
    exact step2
  obtain ⟨z, hp', h1, rfl, h2⟩ := key
  exact ⟨hp', h1, h2⟩
end Go.Proofs.YtaeeffddinppeaaGreatDoor
namespace Go.Proofs.YtaeeffddinppeaaGreatDoor
open Go Go.Ab Go.Ma
theorem mem_ne {c : Nat} (h : c ≠ 0) : (⟨0, 13, c⟩ : Nm) ≠ ⟨0, 13, 0⟩ := fun e => h (by simpa using e)
theorem ne13 {y z : Nm} (h : y.i ≠ 13) (hz : z.i = 13) : y ≠ z := fun e => h (by rw [e]; exact hz)
theorem fin1 {code : List Int} {inp : ByteArray} {s t : PS} {go gm : Nat} {hp1 hp' : Hp} (M : Mst code inp s go gm hp1) (hx : hp' ⟨0, 13, 0⟩ = .box 1 (bxP code inp t.pc t.rg (memA t.own gm t.mem) t.rd t.steps t.en t.own go t.out.length) false)
    (ho : t.out = s.out) (hm : t.mem = s.mem) (hw : t.own = s.own) (h3 : ∀ y : Nm, y.d = 0 → y ≠ ⟨0, 13, 0⟩ → hp' y = hp1 y) : Mst code inp t go gm hp' ∧ ∀ y : Nm, y.d = 0 → y.i ≠ 13 → hp' y = hp1 y :=
  ⟨⟨hx, by rw [h3 _ rfl (mem_ne (by decide)), M.out, ho], fun h => by rw [h3 _ rfl (mem_ne (by decide)), hm]; exact M.mem (hw ▸ h)⟩, fun y h0 h1 => h3 y h0 (ne13 h1 rfl)⟩
theorem at_of (x : Int) (n : Nat) : (x + n) % 4294967296 = (((x + n) % 4294967296).toNat : Int) := by omega
set_option maxHeartbeats 4000000 in
theorem m363 {code : List Int} {inp : ByteArray} {s : PS} {go gm : Nat} {hp1 : Hp} (op na nb nc : Nat) (hs : Ma.Ok inp.size s) (hen : s.en = 0) (hr : rightI ⟨op, na, nb, nc⟩ = true) (hpc : s.pc ≤ 4294967295) (hml : s.mem.length ≤ 1048576) (hil : inp.size ≤ 1048576) (hst : s.out.length ≤ 65536)
    (M : Mst code inp s go gm hp1) (d : Nat) :
    ∃ hp' go' gm', (lim Tryz.prog E00 X00).hpc 2 d 363 [.ptr ⟨0, 13, 0⟩ 1 0, .agg [iv op, iv na, iv nb, iv nc]] hp1 = some (iv (doP code (inpF inp) s ⟨op, na, nb, nc⟩).en, hp') ∧
      Mst code inp { doP code (inpF inp) s ⟨op, na, nb, nc⟩ with en := 0 } go' gm' hp' ∧ ∀ y : Nm, y.d = 0 → y.i ≠ 13 → hp' y = hp1 y := by
  obtain ⟨⟨o1, o2⟩, ⟨_, a1⟩, ⟨_, b1⟩, ⟨_, c1⟩, c2⟩ := right_bounds hr
  simp only at o1 o2 a1 b1 c1 c2
  have ha : na < 16 := by omega
  have hb : nb < 16 := by omega
  have hnc : nc ≤ 65535 := by omega
  have hga := hs.reg (a := (na : Int)) (by omega) (by omega)
  have hgb := hs.reg (a := (nb : Int)) (by omega) (by omega)
  have hrl := hs.rl
  have hpc0 := hs.pc0
  have hpc1 : s.pc ≤ 4294967296 := by omega
  have hol := hs.ol
  have ho1 : (op : Int) ≤ 27 := o2
  obtain ⟨pc, rg, mem, rd, out, steps, en, own⟩ := s
  simp only at hen
  subst hen
  simp only [Int.toNat_natCast] at hga hgb
  simp only at hrl hpc0 hpc1 hpc hml hol hst
  obtain ⟨xa, hxa⟩ : ∃ xa, PS.reg ⟨pc, rg, mem, rd, out, steps, 0, own⟩ na = xa := ⟨_, rfl⟩
  obtain ⟨xb, hxb⟩ : ∃ xb, PS.reg ⟨pc, rg, mem, rd, out, steps, 0, own⟩ nb = xb := ⟨_, rfl⟩
  rw [hxa] at hga
  rw [hxb] at hgb
  obtain ⟨at_, hat⟩ : ∃ at_ : Nat, ((xb + nc) % 4294967296).toNat = at_ := ⟨_, rfl⟩
  have hat' : (xb + nc) % 4294967296 = (at_ : Int) := by rw [← hat]; exact at_of xb nc
  by_cases h415 : 4 ≤ op ∧ op ≤ 15
  · have hc16 : nc < 16 := by have := c2 (by omega) (by omega); omega
    have hgc := hs.reg (a := (nc : Int)) (by omega) (by omega)
    simp only [Int.toNat_natCast] at hgc
    obtain ⟨xc, hxc⟩ : ∃ xc, PS.reg ⟨pc, rg, mem, rd, out, steps, 0, own⟩ nc = xc := ⟨_, rfl⟩
    rw [hxc] at hgc
    have hd : doP code (inpF inp) ⟨pc, rg, mem, rd, out, steps, 0, own⟩ ⟨op, na, nb, nc⟩ = (apP op xb xc).elim (PS.stop ⟨pc, rg, mem, rd, out, steps, 0, own⟩ 2) fun x => PS.setR ⟨pc, rg, mem, rd, out, steps, 0, own⟩ na x := by
      unfold doP
      simp only [hxb, hxc]
      rw [if_neg (by omega), if_neg (by omega), if_neg (by omega), if_neg (by omega), if_neg (by omega), if_neg (by omega), if_neg (by omega), if_neg (by omega), if_neg (by omega), if_neg (by omega), if_neg (by omega), if_neg (by omega), if_neg (by omega), if_neg (by omega), if_neg (by omega)]
    rw [hd]
    cases hv : apP op xb xc with
    | none =>
      obtain ⟨hp', h1, h2, h3⟩ := m363_opo op na nb nc h415.1 h415.2 xb xc hgb.2 hgc.2 hv hpc0 hpc1 hrl d hp1 M.bx ha hb hc16 hgb.1 hgc.1
      exact ⟨hp', go, gm, h1, fin1 M h2 rfl rfl rfl h3⟩
    | some v =>
      obtain ⟨hp', h1, h2, h3⟩ := m363_opi op na nb nc h415.1 h415.2 xb xc hgb.2 hgc.2 v hv hpc0 hpc1 hrl d hp1 M.bx ha hb hc16 hgb.1 hgc.1
      exact ⟨hp', go, gm, h1, fin1 M h2 rfl rfl rfl h3⟩
  have hop : op = 1 ∨ op = 2 ∨ op = 3 ∨ op = 16 ∨ op = 17 ∨ op = 18 ∨ op = 19 ∨ op = 20 ∨ op = 21 ∨ op = 22 ∨ op = 23 ∨ op = 24 ∨ op = 25 ∨ op = 26 ∨ op = 27 := by omega
  rcases hop with rfl | rfl | rfl | rfl | rfl | rfl | rfl | rfl | rfl | rfl | rfl | rfl | rfl | rfl | rfl
  · obtain ⟨hp', h1, h2, h3⟩ := m363_1 na nb nc hnc hpc0 hpc1 hrl d hp1 M.bx ha
    exact ⟨hp', go, gm, h1, fin1 M h2 rfl rfl rfl h3⟩
  · have hd : doP code (inpF inp) ⟨pc, rg, mem, rd, out, steps, 0, own⟩ ⟨(2 : Nat), na, nb, nc⟩ = PS.setR ⟨pc, rg, mem, rd, out, steps, 0, own⟩ na (xa % 65536 + (nc : Int) * 65536) := by rw [← hxa]; rfl
    rw [hd]
    obtain ⟨hp', h1, h2, h3⟩ := m363_2 na nb nc xa hga.2 hnc hpc0 hpc1 hrl d hp1 M.bx ha hga.1
    exact ⟨hp', go, gm, h1, fin1 M h2 rfl rfl rfl h3⟩
  · have hd : doP code (inpF inp) ⟨pc, rg, mem, rd, out, steps, 0, own⟩ ⟨(3 : Nat), na, nb, nc⟩ = PS.setR ⟨pc, rg, mem, rd, out, steps, 0, own⟩ na xb := by rw [← hxb]; rfl
    rw [hd]
    obtain ⟨hp', h1, h2, h3⟩ := m363_3 na nb nc xb hpc0 hpc1 hrl d hp1 M.bx ha hb hgb.1
    exact ⟨hp', go, gm, h1, fin1 M h2 rfl rfl rfl h3⟩
  · have hd : doP code (inpF inp) ⟨pc, rg, mem, rd, out, steps, 0, own⟩ ⟨(16 : Nat), na, nb, nc⟩ = mem[at_]?.elim (PS.stop ⟨pc, rg, mem, rd, out, steps, 0, own⟩ 8) fun x => PS.setR ⟨pc, rg, mem, rd, out, steps, 0, own⟩ na x := by rw [← hat, ← hxb]; rfl
    rw [hd]
    cases hv : mem[at_]? with
    | none =>
      have hcx : mem.length ≤ at_ := List.getElem?_eq_none_iff.1 hv
      cases own with
      | false =>
        obtain ⟨hp', h1, h2, h3⟩ := m363_16os na nb nc at_ xb hnc hat' mem gm rfl hcx hpc0 hpc1 hrl d hp1 M.bx ha hb hgb.1
        exact ⟨hp', go, gm, h1, fin1 M h2 rfl rfl rfl h3⟩
      | true =>
        obtain ⟨hp', h1, h2, h3⟩ := m363_16ow na nb nc at_ xb hnc hat' mem gm rfl hcx hpc0 hpc1 hrl d hp1 M.bx ha hb hgb.1 (M.mem rfl)
        exact ⟨hp', go, gm, h1, fin1 M h2 rfl rfl rfl h3⟩
    | some x =>
      cases own with
      | false =>
        obtain ⟨hp', h1, h2, h3⟩ := m363_16is na nb nc at_ xb hnc hat' mem gm rfl x hv hpc0 hpc1 hrl d hp1 M.bx ha hb hgb.1
        exact ⟨hp', go, gm, h1, fin1 M h2 rfl rfl rfl h3⟩
      | true =>
        obtain ⟨hp', h1, h2, h3⟩ := m363_16iw na nb nc at_ xb hnc hat' mem gm rfl x hv hpc0 hpc1 hrl d hp1 M.bx ha hb hgb.1 (M.mem rfl)
        exact ⟨hp', go, gm, h1, fin1 M h2 rfl rfl rfl h3⟩
  · have hd : doP code (inpF inp) ⟨pc, rg, mem, rd, out, steps, 0, own⟩ ⟨(17 : Nat), na, nb, nc⟩ = if at_ < mem.length then ⟨pc + 1, rg, mem.set at_ xa, rd, out, steps, 0, true⟩ else PS.stop ⟨pc, rg, mem, rd, out, steps, 0, own⟩ 8 := by rw [← hat, ← hxb, ← hxa]; rfl
    rw [hd]
    by_cases hcx : at_ < mem.length
    · rw [if_pos hcx]
      cases own with
      | false =>
        obtain ⟨hp', h1, h2, h4, h3⟩ := m363_17is na nb nc at_ xa xb hnc hat' mem gm rfl rfl hml hcx hpc0 hpc1 hrl d hp1 M.bx ha hb hga.1 hgb.1
        refine ⟨hp', go, _, h1, ⟨?_, ?_, fun _ => h4⟩, fun y h0 h1 => h3 y h0 (ne13 h1 rfl) (ne13 h1 rfl)⟩
        · simpa [memA] using h2
        · rw [h3 _ rfl (mem_ne (by decide)) (by simp)]; exact M.out
      | true =>
        obtain ⟨hp', h1, h2, h4, h3⟩ := m363_17iw na nb nc at_ xa xb hnc hat' mem gm rfl rfl hml hcx hpc0 hpc1 hrl d hp1 M.bx ha hb hga.1 hgb.1 (M.mem rfl)
        refine ⟨hp', go, gm, h1, ⟨?_, ?_, fun _ => h4⟩, fun y h0 h1 => h3 y h0 (ne13 h1 rfl) (ne13 h1 rfl)⟩
        · simpa [memA] using h2
        · rw [h3 _ rfl (mem_ne (by decide)) (by simp)]; exact M.out
    · rw [if_neg hcx]
      have hcx : mem.length ≤ at_ := by omega
      cases own with
      | false =>
        obtain ⟨hp', h1, h2, h3⟩ := m363_17os na nb nc at_ xb hnc hat' mem gm rfl hcx hpc0 hpc1 hrl d hp1 M.bx ha hb hgb.1
        exact ⟨hp', go, gm, h1, fin1 M h2 rfl rfl rfl h3⟩
      | true =>
        obtain ⟨hp', h1, h2, h3⟩ := m363_17ow na nb nc at_ xb hnc hat' mem gm rfl hcx hpc0 hpc1 hrl d hp1 M.bx ha hb hgb.1 (M.mem rfl)
        exact ⟨hp', go, gm, h1, fin1 M h2 rfl rfl rfl h3⟩
  · obtain ⟨hp', h1, h2, h3⟩ := m363_18 na nb nc hpc0 hpc1 hrl d hp1 M.bx
    exact ⟨hp', go, gm, h1, fin1 M h2 rfl rfl rfl h3⟩
  · have hd : doP code (inpF inp) ⟨pc, rg, mem, rd, out, steps, 0, own⟩ ⟨(19 : Nat), na, nb, nc⟩ = PS.goto ⟨pc, rg, mem, rd, out, steps, 0, own⟩ (if xa = 0 then (nc : Int) else pc + 1) := by rw [← hxa]; rfl
    rw [hd]
    obtain ⟨hp', h1, h2, h3⟩ := m363_19 na nb nc xa hpc0 hpc1 hrl d hp1 M.bx ha hga.1
    exact ⟨hp', go, gm, h1, fin1 M h2 rfl rfl rfl h3⟩
  · have hd : doP code (inpF inp) ⟨pc, rg, mem, rd, out, steps, 0, own⟩ ⟨(20 : Nat), na, nb, nc⟩ = PS.goto ⟨pc, rg, mem, rd, out, steps, 0, own⟩ (if xa ≠ 0 then (nc : Int) else pc + 1) := by rw [← hxa]; rfl
    rw [hd]
    obtain ⟨hp', h1, h2, h3⟩ := m363_20 na nb nc xa hpc0 hpc1 hrl d hp1 M.bx ha hga.1
    exact ⟨hp', go, gm, h1, fin1 M h2 rfl rfl rfl h3⟩
  · obtain ⟨hp', h1, h2, h3⟩ := m363_21 na nb nc hpc0 hpc1 hrl d hp1 M.bx ha
    exact ⟨hp', go, gm, h1, fin1 M h2 rfl rfl rfl h3⟩
  · have hd : doP code (inpF inp) ⟨pc, rg, mem, rd, out, steps, 0, own⟩ ⟨(22 : Nat), na, nb, nc⟩ = PS.goto ⟨pc, rg, mem, rd, out, steps, 0, own⟩ xa := by rw [← hxa]; rfl
    rw [hd]
    obtain ⟨hp', h1, h2, h3⟩ := m363_22 na nb nc xa hga.2 hpc0 hpc1 hrl d hp1 M.bx ha hga.1
    exact ⟨hp', go, gm, h1, fin1 M h2 rfl rfl rfl h3⟩
  · have hd : doP code (inpF inp) ⟨pc, rg, mem, rd, out, steps, 0, own⟩ ⟨(23 : Nat), na, nb, nc⟩ = (inpF inp rd).elim (PS.setR ⟨pc, rg, mem, rd, out, steps, 0, own⟩ na 256) fun b => ⟨pc + 1, rg.set na b, mem, rd + 1, out, steps, 0, own⟩ := rfl
    rw [hd]
    unfold inpF
    cases hv : inp.data[rd]? with
    | none =>
      obtain ⟨hp', h1, h2, h3⟩ := m363_23o na nb nc rd rfl (by simpa using hv) hpc0 hpc1 hrl d hp1 M.bx ha
      exact ⟨hp', go, gm, h1, fin1 M h2 rfl rfl rfl h3⟩
    | some b =>
      obtain ⟨hp', h1, h2, h3⟩ := m363_23i na nb nc rd rfl b hv hil hpc0 hpc1 hrl d hp1 M.bx ha
      exact ⟨hp', go, gm, h1, fin1 M h2 rfl rfl rfl h3⟩
  · have hd : doP code (inpF inp) ⟨pc, rg, mem, rd, out, steps, 0, own⟩ ⟨(24 : Nat), na, nb, nc⟩ = if 65536 ≤ out.length then PS.stop ⟨pc, rg, mem, rd, out, steps, 0, own⟩ 4 else ⟨pc + 1, rg, mem, rd, out ++ [xa % 256], steps, 0, own⟩ := by rw [← hxa]; rfl
    rw [hd]
    by_cases hc : 65536 ≤ out.length
    · rw [if_pos hc]
      obtain ⟨hp', h1, h2, h3⟩ := m363_24o na nb nc hc (by omega) out rfl hpc0 hpc1 hrl d hp1 M.bx ha M.out
      exact ⟨hp', go, gm, h1, fin1 M h2 rfl rfl rfl h3⟩
    · rw [if_neg hc]
      obtain ⟨hp', h1, h2, h4, h3⟩ := m363_24i na nb nc xa hga.2 (by omega) out rfl hpc0 hpc1 hrl d hp1 M.bx ha hga.1 M.out
      refine ⟨hp', go + 1, gm, h1, ⟨?_, h4, fun h => ?_⟩, fun y h0 h1 => h3 y h0 (ne13 h1 rfl) (ne13 h1 rfl)⟩
      · simpa using h2
      · rw [h3 _ rfl (mem_ne (by decide)) (by simp)]; exact M.mem h
  · have hd : doP code (inpF inp) ⟨pc, rg, mem, rd, out, steps, 0, own⟩ ⟨(25 : Nat), na, nb, nc⟩ = if (nc : Int) ≤ xa then PS.stop ⟨pc, rg, mem, rd, out, steps, 0, own⟩ 3 else PS.goto ⟨pc, rg, mem, rd, out, steps, 0, own⟩ (pc + 1) := by rw [← hxa]; rfl
    rw [hd]
    by_cases hc : (nc : Int) ≤ xa
    · rw [if_pos hc]
      obtain ⟨hp', h1, h2, h3⟩ := m363_25o na nb nc xa hnc hc hpc0 hpc1 hrl d hp1 M.bx ha hga.1
      exact ⟨hp', go, gm, h1, fin1 M h2 rfl rfl rfl h3⟩
    · rw [if_neg hc]
      obtain ⟨hp', h1, h2, h3⟩ := m363_25i na nb nc xa hnc (by omega) hpc0 hpc1 hrl d hp1 M.bx ha hga.1
      exact ⟨hp', go, gm, h1, fin1 M h2 rfl rfl rfl h3⟩
  · obtain ⟨hp', h1, h2, h3⟩ := m363_26 na nb nc hpc0 hpc1 hrl d hp1 M.bx
    exact ⟨hp', go, gm, h1, fin1 M h2 rfl rfl rfl h3⟩
  · have hd : doP code (inpF inp) ⟨pc, rg, mem, rd, out, steps, 0, own⟩ ⟨(27 : Nat), na, nb, nc⟩ = code[at_]?.elim (PS.stop ⟨pc, rg, mem, rd, out, steps, 0, own⟩ 8) fun x => PS.setR ⟨pc, rg, mem, rd, out, steps, 0, own⟩ na x := by rw [← hat, ← hxb]; rfl
    rw [hd]
    cases hv : code[at_]? with
    | none =>
      obtain ⟨hp', h1, h2, h3⟩ := m363_27o na nb nc at_ xb hnc hat' (List.getElem?_eq_none_iff.1 hv) hpc0 hpc1 hrl d hp1 M.bx ha hb hgb.1
      exact ⟨hp', go, gm, h1, fin1 M h2 rfl rfl rfl h3⟩
    | some x =>
      obtain ⟨hp', h1, h2, h3⟩ := m363_27i na nb nc at_ xb hnc hat' x hv hpc0 hpc1 hrl d hp1 M.bx ha hb hgb.1
      exact ⟨hp', go, gm, h1, fin1 M h2 rfl rfl rfl h3⟩
end Go.Proofs.YtaeeffddinppeaaGreatDoor
namespace Go.Proofs.YtaeeffddinppeaaGreatDoor
open Go Go.Ab Go.Ma
attribute [-simp] Prog.bind getCs putCs
attribute [local simp ↓] run_bind
attribute [local simp ↓] runF_bind
attribute [local simp] run_getCsN runF_getCsN facetsC putCs_one run_putCsN
attribute [local simp] take1 bx_len bx_0 bx_1 bx_2 bx_19 bx_20 bx_21 bx_22 bx_23 bx_24 bx_25 bx_reg bs_2 bs_19 bs_20 bs_22 bs_23 bs_24 bs_25 bs_reg bx_regg bg_0 bg_1 bg_2 bg_19 bg_20 bg_21 bg_22 bg_23 bg_24 bg_25
theorem Wo_do {code : List Int} {inp : ByteArray} {s : PS} {go gm : Nat} (op na nb nc : Nat) (hs : Ma.Ok inp.size s) (hen : s.en = 0) (hr : rightI ⟨op, na, nb, nc⟩ = true) (hpc : s.pc ≤ 4294967295) (hml : s.mem.length ≤ 1048576) (hil : inp.size ≤ 1048576)
    {all : Array Oper} {os : List Oper} {fr : Nat → AV} {hp : Hp} {Q : AS → Prop} {pos : String} {aft : Array Edge} (M : Mst code inp s go gm hp) (h65 : fr 65 = .ptr ⟨0, 13, 0⟩ 1 0) (h66 : fr 66 = .agg [iv op, iv na, iv nb, iv nc])
    (rest : ∀ hp' go' gm', Mst code inp { doP code (inpF inp) s ⟨op, na, nb, nc⟩ with en := 0 } go' gm' hp' → (∀ y : Nm, y.d = 0 → y.i ≠ 13 → hp' y = hp y) → Wo Tryz.prog E00 2 (lim Tryz.prog E00 X00) all os ⟨setd fr (some 67) (iv (doP code (inpF inp) s ⟨op, na, nb, nc⟩).en), hp'⟩ Q) :
    Wo Tryz.prog E00 2 (lim Tryz.prog E00 X00) all (⟨some 67, .call { callee := .value (.func 363), args := #[.tmp 65, .tmp 66], argTypes := #[345, 119] }, 3, pos, aft, none⟩ :: os) ⟨fr, hp⟩ Q := by
  obtain ⟨hp', go', gm', h1, M', h3⟩ := m363 op na nb nc hs hen hr hpc hml hil hs.ol M 67
  refine Wo_u ?_ (rest hp' go' gm' M' h3)
  simp only [evOp, opA, callP, okFn_363, if_true, E00_hp, List.map_cons, List.map_nil, h65, h66, List.append_nil, Option.getD_some]
  simp [Prog.run, h1]
set_option maxHeartbeats 4000000 in
theorem m287_o {code : List Int} {inp : ByteArray} {pc : Int} {rg : List Int} {M : AV} {rd steps en : Int} {o : Bool} {go no : Nat} (hcx : (code.length : Int) ≤ pc) (hpc0 : 0 ≤ pc) (hpc1 : pc ≤ 4294967296) (hen : en = 0)  (hrl : rg.length = 16) (d : Nat) (hp1 : Hp) (hx : hp1 ⟨0, 13, 0⟩ = .box 1 (bxP code inp pc rg M rd steps en o go no) false)  :
    ∃ hp', (lim Tryz.prog E00 X00).hpc 1 d 287 [.ptr ⟨0, 13, 0⟩ 1 0] hp1 = some (bv false, hp') ∧ hp' ⟨0, 13, 0⟩ = .box 1 (bxP code inp pc rg M rd steps 7 o go no) false ∧ ∀ y : Nm, y.d = 0 → y ≠ ⟨0, 13, 0⟩ → hp' y = hp1 y := by
  have key : ∃ z hp', (lim Tryz.prog E00 X00).hpc 1 d 287 [.ptr ⟨0, 13, 0⟩ 1 0] hp1 = some (z, hp') ∧ (z = bv false ∧ hp' ⟨0, 13, 0⟩ = .box 1 (bxP code inp pc rg M rd steps 7 o go no) false ∧ ∀ y : Nm, y.d = 0 → y ≠ ⟨0, 13, 0⟩ → hp' y = hp1 y) := by
    refine lim_hpcW (R := fun z hp' => z = bv false ∧ hp' ⟨0, 13, 0⟩ = .box 1 (bxP code inp pc rg M rd steps 7 o go no) false ∧ ∀ y : Nm, y.d = 0 → y ≠ ⟨0, 13, 0⟩ → hp' y = hp1 y) Tryz.func287 rfl rfl bodyOk_287 rfl rfl ?_
    have hNA := fun (k : Nat) (h : k < 16) => (⟨by omega, by omega⟩ : 3 + k ≤ 25 ∧ 3 + k < 26)
    try have hA := hNA _ ha
    try have hB := hNA _ hb16
    try have hC := hNA _ hc16
    clear hNA
    try have hga' := getV hga
    try have hgb' := getV hgb
    try have hgc' := getV hgc
    subst hen
    have q0 : ¬ pc < 0 := by omega
    exact step2
  obtain ⟨z, hp', h1, rfl, h2⟩ := key
  exact ⟨hp', h1, h2⟩
set_option maxHeartbeats 4000000 in
theorem m287_b {code : List Int} {inp : ByteArray} {pc : Int} {rg : List Int} {M : AV} {rd steps en : Int} {o : Bool} {go no : Nat} (pn : Nat) (hpn : pc = pn) (w : Int) (hw : code[pn]? = some w) (hwU : Ma.U w) (hr : rightI (insW w) = false) (stn : Nat) (hst : steps = stn) (hst1 : stn < 9223372036854775806) (hpc0 : 0 ≤ pc) (hpc1 : pc ≤ 4294967296) (hen : en = 0)  (hrl : rg.length = 16) (d : Nat) (hp1 : Hp) (hx : hp1 ⟨0, 13, 0⟩ = .box 1 (bxP code inp pc rg M rd steps en o go no) false)  :
    ∃ hp', (lim Tryz.prog E00 X00).hpc 1 d 287 [.ptr ⟨0, 13, 0⟩ 1 0] hp1 = some (bv true, hp') ∧ hp' ⟨0, 13, 0⟩ = .box 1 (bxP code inp pc rg M rd ((stn : Int) + 1) 6 o go no) false ∧ ∀ y : Nm, y.d = 0 → y ≠ ⟨0, 13, 0⟩ → hp' y = hp1 y := by
  have key : ∃ z hp', (lim Tryz.prog E00 X00).hpc 1 d 287 [.ptr ⟨0, 13, 0⟩ 1 0] hp1 = some (z, hp') ∧ (z = bv true ∧ hp' ⟨0, 13, 0⟩ = .box 1 (bxP code inp pc rg M rd ((stn : Int) + 1) 6 o go no) false ∧ ∀ y : Nm, y.d = 0 → y ≠ ⟨0, 13, 0⟩ → hp' y = hp1 y) := by
    refine lim_hpcW (R := fun z hp' => z = bv true ∧ hp' ⟨0, 13, 0⟩ = .box 1 (bxP code inp pc rg M rd ((stn : Int) + 1) 6 o go no) false ∧ ∀ y : Nm, y.d = 0 → y ≠ ⟨0, 13, 0⟩ → hp' y = hp1 y) Tryz.func287 rfl rfl bodyOk_287 rfl rfl ?_
    have hNA := fun (k : Nat) (h : k < 16) => (⟨by omega, by omega⟩ : 3 + k ≤ 25 ∧ 3 + k < 26)
    try have hA := hNA _ ha
    try have hB := hNA _ hb16
    try have hC := hNA _ hc16
    clear hNA
    try have hga' := getV hga
    try have hgb' := getV hgb
    try have hgc' := getV hgc
    subst hen hpn hst
    have q0 : ¬ (pn : Int) < 0 := by omega
    have q1 : ¬ (code.length : Int) ≤ pn := by have := (List.getElem?_eq_some_iff.1 hw).1; omega
    have q2 : pn < code.length := (List.getElem?_eq_some_iff.1 hw).1
    have q3 := getV hw
    have q4 := wrapN (k := stn) (by omega)
    have h362 := m362 w hwU
    unfold decP at h362
    rw [hr] at h362
    simp only [Bool.false_eq_true, if_false] at h362
    have q5 : ∀ h, (rowW code)[pn]'h = [uv w] := fun h => by rw [List.getElem_map, q3]
    exact step2
  obtain ⟨z, hp', h1, rfl, h2⟩ := key
  exact ⟨hp', h1, h2⟩
end Go.Proofs.YtaeeffddinppeaaGreatDoor
