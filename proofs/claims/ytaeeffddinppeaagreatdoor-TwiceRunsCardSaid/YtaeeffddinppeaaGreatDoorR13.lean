/- A part of the proof: Mg, Mh, Mi, Mj. -/
import Derived.Test.YtaeeffddinppeaaGreatDoorR12
set_option linter.unusedSimpArgs false
set_option linter.unusedVariables false
namespace Go.Proofs.YtaeeffddinppeaaGreatDoor
open Go Go.Ab Go.Ma
attribute [-simp] Prog.bind getCs putCs
attribute [local simp ↓] run_bind
attribute [local simp ↓] runF_bind
attribute [local simp] run_getCsN runF_getCsN facetsC putCs_one run_putCsN
attribute [local simp] take1 bx_len bx_0 bx_1 bx_2 bx_19 bx_20 bx_21 bx_22 bx_23 bx_24 bx_25 bx_reg bs_2 bs_19 bs_20 bs_22 bs_23 bs_24 bs_25 bs_reg bx_regg bg_0 bg_1 bg_2 bg_19 bg_20 bg_21 bg_22 bg_23 bg_24 bg_25
set_option maxHeartbeats 4000000 in
theorem m363_1 {code : List Int} {inp : ByteArray} {pc : Int} {rg : List Int} {M : AV} {rd steps en : Int} {o : Bool} {go no : Nat} (na nb nc : Nat) (hnc : nc ≤ 65535) (hpc0 : 0 ≤ pc) (hpc1 : pc ≤ 4294967296)  (hrl : rg.length = 16) (d : Nat) (hp1 : Hp) (hx : hp1 ⟨0, 13, 0⟩ = .box 1 (bxP code inp pc rg M rd steps en o go no) false) (ha : na < 16) :
    ∃ hp', (lim Tryz.prog E00 X00).hpc 2 d 363 [.ptr ⟨0, 13, 0⟩ 1 0, .agg [iv 1, iv na, iv nb, iv nc]] hp1 = some (iv 0, hp') ∧ hp' ⟨0, 13, 0⟩ = .box 1 (bxP code inp (pc + 1) (rg.set na (nc : Int)) M rd steps en o go no) false ∧ ∀ y : Nm, y.d = 0 → y ≠ ⟨0, 13, 0⟩ → hp' y = hp1 y := by
  refine unkey ?_
  refine lim_hpcW Tryz.func363 rfl rfl bodyOk_363 rfl rfl ?_
  have hNA := fun (k : Nat) (h : k < 16) => (⟨by omega, by omega⟩ : 3 + k ≤ 25 ∧ 3 + k < 26)
  try have hA := hNA _ ha
  try have hB := hNA _ hb16
  try have hC := hNA _ hc16
  clear hNA
  try have hga' := getV hga
  try have hgb' := getV hgb
  try have hgc' := getV hgc
  have hw : IntKind.i64.wrap (pc + 1) = pc + 1 := wrap64 (by omega) (by omega)
  have w0 : IntKind.u32.wrap (nc : Int) = nc := by rw [IntKind.wrap_u32]; omega
  exact step2
set_option maxHeartbeats 4000000 in
theorem m363_2 {code : List Int} {inp : ByteArray} {pc : Int} {rg : List Int} {M : AV} {rd steps en : Int} {o : Bool} {go no : Nat} (na nb nc : Nat) (xa : Int) (hxa : Ma.U xa) (hnc : nc ≤ 65535) (hpc0 : 0 ≤ pc) (hpc1 : pc ≤ 4294967296)  (hrl : rg.length = 16) (d : Nat) (hp1 : Hp) (hx : hp1 ⟨0, 13, 0⟩ = .box 1 (bxP code inp pc rg M rd steps en o go no) false) (ha : na < 16) (hga : rg[na]? = some xa) :
    ∃ hp', (lim Tryz.prog E00 X00).hpc 2 d 363 [.ptr ⟨0, 13, 0⟩ 1 0, .agg [iv 2, iv na, iv nb, iv nc]] hp1 = some (iv 0, hp') ∧ hp' ⟨0, 13, 0⟩ = .box 1 (bxP code inp (pc + 1) (rg.set na (xa % 65536 + (nc : Int) * 65536)) M rd steps en o go no) false ∧ ∀ y : Nm, y.d = 0 → y ≠ ⟨0, 13, 0⟩ → hp' y = hp1 y := by
  refine unkey ?_
  refine lim_hpcW Tryz.func363 rfl rfl bodyOk_363 rfl rfl ?_
  have hNA := fun (k : Nat) (h : k < 16) => (⟨by omega, by omega⟩ : 3 + k ≤ 25 ∧ 3 + k < 26)
  try have hA := hNA _ ha
  try have hB := hNA _ hb16
  try have hC := hNA _ hc16
  clear hNA
  try have hga' := getV hga
  try have hgb' := getV hgb
  try have hgc' := getV hgc
  have hw : IntKind.i64.wrap (pc + 1) = pc + 1 := wrap64 (by omega) (by omega)
  have w0 : IntKind.u32.wrap (nc : Int) = nc := by rw [IntKind.wrap_u32]; omega
  have w1 : IntKind.u32.wrap (((xa % 2 ^ IntKind.u32.bits).toNat &&& 65535 % 2 ^ IntKind.u32.bits : Nat) : Int) = xa % 65536 := by have h := (U_and hxa).2; rw [and_form] at h; exact h
  have w2 : IntKind.u32.wrap ((nc : Int) * 2 ^ min 16 IntKind.u32.bits) = (nc : Int) * 65536 := by rw [show (2 : Int) ^ min 16 IntKind.u32.bits = 65536 from rfl, IntKind.wrap_u32]; omega
  have w3 : IntKind.u32.wrap (((xa % 65536 % 2 ^ IntKind.u32.bits).toNat ||| ((nc : Int) * 65536 % 2 ^ IntKind.u32.bits).toNat : Nat) : Int) = xa % 65536 + (nc : Int) * 65536 := by
    have h := orW_lui (x := xa % 65536) (c := nc) ⟨by omega, by omega⟩ ⟨by omega, by omega⟩
    rw [or_form] at h
    refine Eq.trans (congrArg _ h) ?_
    rw [IntKind.wrap_u32]
    omega
  clear hxa
  exact step2
set_option maxHeartbeats 4000000 in
theorem m363_3 {code : List Int} {inp : ByteArray} {pc : Int} {rg : List Int} {M : AV} {rd steps en : Int} {o : Bool} {go no : Nat} (na nb nc : Nat) (xb : Int) (hpc0 : 0 ≤ pc) (hpc1 : pc ≤ 4294967296)  (hrl : rg.length = 16) (d : Nat) (hp1 : Hp) (hx : hp1 ⟨0, 13, 0⟩ = .box 1 (bxP code inp pc rg M rd steps en o go no) false) (ha : na < 16) (hb16 : nb < 16) (hgb : rg[nb]? = some xb) :
    ∃ hp', (lim Tryz.prog E00 X00).hpc 2 d 363 [.ptr ⟨0, 13, 0⟩ 1 0, .agg [iv 3, iv na, iv nb, iv nc]] hp1 = some (iv 0, hp') ∧ hp' ⟨0, 13, 0⟩ = .box 1 (bxP code inp (pc + 1) (rg.set na xb) M rd steps en o go no) false ∧ ∀ y : Nm, y.d = 0 → y ≠ ⟨0, 13, 0⟩ → hp' y = hp1 y := by
  refine unkey ?_
  refine lim_hpcW Tryz.func363 rfl rfl bodyOk_363 rfl rfl ?_
  have hNA := fun (k : Nat) (h : k < 16) => (⟨by omega, by omega⟩ : 3 + k ≤ 25 ∧ 3 + k < 26)
  try have hA := hNA _ ha
  try have hB := hNA _ hb16
  try have hC := hNA _ hc16
  clear hNA
  try have hga' := getV hga
  try have hgb' := getV hgb
  try have hgc' := getV hgc
  have hw : IntKind.i64.wrap (pc + 1) = pc + 1 := wrap64 (by omega) (by omega)
  exact step2
set_option maxHeartbeats 4000000 in
theorem m363_26 {code : List Int} {inp : ByteArray} {pc : Int} {rg : List Int} {M : AV} {rd steps en : Int} {o : Bool} {go no : Nat} (na nb nc : Nat) (hpc0 : 0 ≤ pc) (hpc1 : pc ≤ 4294967296)  (hrl : rg.length = 16) (d : Nat) (hp1 : Hp) (hx : hp1 ⟨0, 13, 0⟩ = .box 1 (bxP code inp pc rg M rd steps en o go no) false)  :
    ∃ hp', (lim Tryz.prog E00 X00).hpc 2 d 363 [.ptr ⟨0, 13, 0⟩ 1 0, .agg [iv 26, iv na, iv nb, iv nc]] hp1 = some (iv 1, hp') ∧ hp' ⟨0, 13, 0⟩ = .box 1 (bxP code inp pc rg M rd steps en o go no) false ∧ ∀ y : Nm, y.d = 0 → y ≠ ⟨0, 13, 0⟩ → hp' y = hp1 y := by
  refine unkey ?_
  refine lim_hpcW Tryz.func363 rfl rfl bodyOk_363 rfl rfl ?_
  have hNA := fun (k : Nat) (h : k < 16) => (⟨by omega, by omega⟩ : 3 + k ≤ 25 ∧ 3 + k < 26)
  try have hA := hNA _ ha
  try have hB := hNA _ hb16
  try have hC := hNA _ hc16
  clear hNA
  try have hga' := getV hga
  try have hgb' := getV hgb
  try have hgc' := getV hgc
  exact step2
set_option maxHeartbeats 4000000 in
theorem m363_25i {code : List Int} {inp : ByteArray} {pc : Int} {rg : List Int} {M : AV} {rd steps en : Int} {o : Bool} {go no : Nat} (na nb nc : Nat) (xa : Int) (hnc : nc ≤ 65535) (hcx : (xa < (nc : Int))) (hpc0 : 0 ≤ pc) (hpc1 : pc ≤ 4294967296)  (hrl : rg.length = 16) (d : Nat) (hp1 : Hp) (hx : hp1 ⟨0, 13, 0⟩ = .box 1 (bxP code inp pc rg M rd steps en o go no) false) (ha : na < 16) (hga : rg[na]? = some xa) :
    ∃ hp', (lim Tryz.prog E00 X00).hpc 2 d 363 [.ptr ⟨0, 13, 0⟩ 1 0, .agg [iv 25, iv na, iv nb, iv nc]] hp1 = some (iv 0, hp') ∧ hp' ⟨0, 13, 0⟩ = .box 1 (bxP code inp (pc + 1) rg M rd steps en o go no) false ∧ ∀ y : Nm, y.d = 0 → y ≠ ⟨0, 13, 0⟩ → hp' y = hp1 y := by
  refine unkey ?_
  refine lim_hpcW Tryz.func363 rfl rfl bodyOk_363 rfl rfl ?_
  have hNA := fun (k : Nat) (h : k < 16) => (⟨by omega, by omega⟩ : 3 + k ≤ 25 ∧ 3 + k < 26)
  try have hA := hNA _ ha
  try have hB := hNA _ hb16
  try have hC := hNA _ hc16
  clear hNA
  try have hga' := getV hga
  try have hgb' := getV hgb
  try have hgc' := getV hgc
  have hw : IntKind.i64.wrap (pc + 1) = pc + 1 := wrap64 (by omega) (by omega)
  have w0 : IntKind.u32.wrap (nc : Int) = nc := by rw [IntKind.wrap_u32]; omega
  have q1 : ¬ (nc : Int) ≤ xa := by omega
  exact step2
set_option maxHeartbeats 4000000 in
theorem m363_25o {code : List Int} {inp : ByteArray} {pc : Int} {rg : List Int} {M : AV} {rd steps en : Int} {o : Bool} {go no : Nat} (na nb nc : Nat) (xa : Int) (hnc : nc ≤ 65535) (hcx : ((nc : Int) ≤ xa)) (hpc0 : 0 ≤ pc) (hpc1 : pc ≤ 4294967296)  (hrl : rg.length = 16) (d : Nat) (hp1 : Hp) (hx : hp1 ⟨0, 13, 0⟩ = .box 1 (bxP code inp pc rg M rd steps en o go no) false) (ha : na < 16) (hga : rg[na]? = some xa) :
    ∃ hp', (lim Tryz.prog E00 X00).hpc 2 d 363 [.ptr ⟨0, 13, 0⟩ 1 0, .agg [iv 25, iv na, iv nb, iv nc]] hp1 = some (iv 3, hp') ∧ hp' ⟨0, 13, 0⟩ = .box 1 (bxP code inp pc rg M rd steps en o go no) false ∧ ∀ y : Nm, y.d = 0 → y ≠ ⟨0, 13, 0⟩ → hp' y = hp1 y := by
  refine unkey ?_
  refine lim_hpcW Tryz.func363 rfl rfl bodyOk_363 rfl rfl ?_
  have hNA := fun (k : Nat) (h : k < 16) => (⟨by omega, by omega⟩ : 3 + k ≤ 25 ∧ 3 + k < 26)
  try have hA := hNA _ ha
  try have hB := hNA _ hb16
  try have hC := hNA _ hc16
  clear hNA
  try have hga' := getV hga
  try have hgb' := getV hgb
  try have hgc' := getV hgc
  have hw : IntKind.i64.wrap (pc + 1) = pc + 1 := wrap64 (by omega) (by omega)
  have w0 : IntKind.u32.wrap (nc : Int) = nc := by rw [IntKind.wrap_u32]; omega
  exact step2
end Go.Proofs.YtaeeffddinppeaaGreatDoor
namespace Go.Proofs.YtaeeffddinppeaaGreatDoor
open Go Go.Ab Go.Ma
attribute [-simp] Prog.bind getCs putCs
attribute [local simp ↓] run_bind
attribute [local simp ↓] runF_bind
attribute [local simp] run_getCsN runF_getCsN facetsC putCs_one run_putCsN
attribute [local simp] take1 bx_len bx_0 bx_1 bx_2 bx_19 bx_20 bx_21 bx_22 bx_23 bx_24 bx_25 bx_reg bs_2 bs_19 bs_20 bs_22 bs_23 bs_24 bs_25 bs_reg bx_regg bg_0 bg_1 bg_2 bg_19 bg_20 bg_21 bg_22 bg_23 bg_24 bg_25
theorem empty_size : (⟨#[]⟩ : ByteArray).size = 0 := rfl
attribute [local simp] empty_size
def snocB (l : List Int) (x : Int) : List (List AV) := rowB (l ++ [x])
set_option maxHeartbeats 4000000 in
theorem m363_24o {code : List Int} {inp : ByteArray} {pc : Int} {rg : List Int} {M : AV} {rd steps en : Int} {o : Bool} {go no : Nat} (na nb nc : Nat) (hol : 65536 ≤ no) (hol2 : no ≤ 1000000) (out : List Int) (hno : no = out.length) (hpc0 : 0 ≤ pc) (hpc1 : pc ≤ 4294967296)  (hrl : rg.length = 16) (d : Nat) (hp1 : Hp) (hx : hp1 ⟨0, 13, 0⟩ = .box 1 (bxP code inp pc rg M rd steps en o go no) false) (ha : na < 16) (hmo : hp1 ⟨0, 13, 26⟩ = .arr go 1 5 (rowB out) false) :
    ∃ hp', (lim Tryz.prog E00 X00).hpc 2 d 363 [.ptr ⟨0, 13, 0⟩ 1 0, .agg [iv 24, iv na, iv nb, iv nc]] hp1 = some (iv 4, hp') ∧ hp' ⟨0, 13, 0⟩ = .box 1 (bxP code inp pc rg M rd steps en o go no) false ∧ ∀ y : Nm, y.d = 0 → y ≠ ⟨0, 13, 0⟩ → hp' y = hp1 y := by
  refine unkey ?_
  refine lim_hpcW Tryz.func363 rfl rfl bodyOk_363 rfl rfl ?_
  have hNA := fun (k : Nat) (h : k < 16) => (⟨by omega, by omega⟩ : 3 + k ≤ 25 ∧ 3 + k < 26)
  try have hA := hNA _ ha
  try have hB := hNA _ hb16
  try have hC := hNA _ hc16
  clear hNA
  try have hga' := getV hga
  try have hgb' := getV hgb
  try have hgc' := getV hgc
  have hw : IntKind.i64.wrap (pc + 1) = pc + 1 := wrap64 (by omega) (by omega)
  subst hno
  have v0 : (65536 : Int) ≤ out.length := by omega
  have v1 : IntKind.i64.wrap (out.length : Int) = out.length := wrap64 (by omega) (by omega)
  exact step2
set_option maxHeartbeats 4000000 in
theorem m363_24i {code : List Int} {inp : ByteArray} {pc : Int} {rg : List Int} {M : AV} {rd steps en : Int} {o : Bool} {go no : Nat} (na nb nc : Nat) (xa : Int) (hxa : Ma.U xa) (hol : no < 65536) (out : List Int) (hno : no = out.length) (hpc0 : 0 ≤ pc) (hpc1 : pc ≤ 4294967296)  (hrl : rg.length = 16) (d : Nat) (hp1 : Hp) (hx : hp1 ⟨0, 13, 0⟩ = .box 1 (bxP code inp pc rg M rd steps en o go no) false) (ha : na < 16) (hga : rg[na]? = some xa) (hmo : hp1 ⟨0, 13, 26⟩ = .arr go 1 5 (rowB out) false) :
    ∃ hp', (lim Tryz.prog E00 X00).hpc 2 d 363 [.ptr ⟨0, 13, 0⟩ 1 0, .agg [iv 24, iv na, iv nb, iv nc]] hp1 = some (iv 0, hp') ∧ hp' ⟨0, 13, 0⟩ = .box 1 (bxP code inp (pc + 1) rg M rd steps en o (go + 1) (no + 1)) false ∧ hp' ⟨0, 13, 26⟩ = .arr (go + 1) 1 5 (snocB out (xa % 256)) false ∧ ∀ y : Nm, y.d = 0 → y ≠ ⟨0, 13, 0⟩ → y ≠ ⟨0, 13, 26⟩ → hp' y = hp1 y := by
  refine unkey ?_
  refine lim_hpcW Tryz.func363 rfl rfl bodyOk_363 rfl rfl ?_
  have hNA := fun (k : Nat) (h : k < 16) => (⟨by omega, by omega⟩ : 3 + k ≤ 25 ∧ 3 + k < 26)
  try have hA := hNA _ ha
  try have hB := hNA _ hb16
  try have hC := hNA _ hc16
  clear hNA
  try have hga' := getV hga
  try have hgb' := getV hgb
  try have hgc' := getV hgc
  have hw : IntKind.i64.wrap (pc + 1) = pc + 1 := wrap64 (by omega) (by omega)
  subst hno
  have v0 : ¬ (65536 : Int) ≤ out.length := by omega
  have v1 : IntKind.i64.wrap (out.length : Int) = out.length := wrap64 (by omega) (by omega)
  have u2 : IntKind.u8.wrap xa = xa % 256 := by rw [IntKind.wrap_u8]
  have u4 : out.length + 1 ≤ 140737488355328 := by omega
  have u5 : out.length ≤ 9223372036854775806 := by omega
  have u6 : rowB out ++ [[.sc (.int .u8 (xa % 256))]] = snocB out (xa % 256) := by simp [snocB]
  have u7 : (rowB out).length = out.length := List.length_map ..
  clear hxa
  generalize snocB out (xa % 256) = SB at *
  generalize rowB out = RB at *
  exact step3
end Go.Proofs.YtaeeffddinppeaaGreatDoor
namespace Go.Proofs.YtaeeffddinppeaaGreatDoor
open Go Go.Ab Go.Ma
attribute [-simp] Prog.bind getCs putCs
attribute [local simp ↓] run_bind
attribute [local simp ↓] runF_bind
attribute [local simp] run_getCsN runF_getCsN facetsC putCs_one run_putCsN
attribute [local simp] take1 bx_len bx_0 bx_1 bx_2 bx_19 bx_20 bx_21 bx_22 bx_23 bx_24 bx_25 bx_reg bs_2 bs_19 bs_20 bs_22 bs_23 bs_24 bs_25 bs_reg bx_regg bg_0 bg_1 bg_2 bg_19 bg_20 bg_21 bg_22 bg_23 bg_24 bg_25
set_option maxHeartbeats 4000000 in
theorem m363_18 {code : List Int} {inp : ByteArray} {pc : Int} {rg : List Int} {M : AV} {rd steps en : Int} {o : Bool} {go no : Nat} (na nb nc : Nat) (hpc0 : 0 ≤ pc) (hpc1 : pc ≤ 4294967296)  (hrl : rg.length = 16) (d : Nat) (hp1 : Hp) (hx : hp1 ⟨0, 13, 0⟩ = .box 1 (bxP code inp pc rg M rd steps en o go no) false)  :
    ∃ hp', (lim Tryz.prog E00 X00).hpc 2 d 363 [.ptr ⟨0, 13, 0⟩ 1 0, .agg [iv 18, iv na, iv nb, iv nc]] hp1 = some (iv 0, hp') ∧ hp' ⟨0, 13, 0⟩ = .box 1 (bxP code inp (nc : Int) rg M rd steps en o go no) false ∧ ∀ y : Nm, y.d = 0 → y ≠ ⟨0, 13, 0⟩ → hp' y = hp1 y := by
  refine unkey ?_
  refine lim_hpcW Tryz.func363 rfl rfl bodyOk_363 rfl rfl ?_
  have hNA := fun (k : Nat) (h : k < 16) => (⟨by omega, by omega⟩ : 3 + k ≤ 25 ∧ 3 + k < 26)
  try have hA := hNA _ ha
  try have hB := hNA _ hb16
  try have hC := hNA _ hc16
  clear hNA
  try have hga' := getV hga
  try have hgb' := getV hgb
  try have hgc' := getV hgc
  obtain ⟨F, hF⟩ := skol (fun d hp (hc : hp ⟨0, 13, 0⟩ = .box 1 (bxP code inp pc rg M rd steps en o go no) false) => m399_18 na nb nc hpc0 hpc1 hrl d hp hc)
  have f1 := fun d hp hc => (hF d hp hc).1
  have f2 := fun d hp hc => (hF d hp hc).2.1
  have f3 := fun d hp hc => (hF d hp hc).2.2
  clear hF
  exact step4
set_option maxHeartbeats 4000000 in
theorem m363_19 {code : List Int} {inp : ByteArray} {pc : Int} {rg : List Int} {M : AV} {rd steps en : Int} {o : Bool} {go no : Nat} (na nb nc : Nat) (xa : Int) (hpc0 : 0 ≤ pc) (hpc1 : pc ≤ 4294967296)  (hrl : rg.length = 16) (d : Nat) (hp1 : Hp) (hx : hp1 ⟨0, 13, 0⟩ = .box 1 (bxP code inp pc rg M rd steps en o go no) false) (ha : na < 16) (hga : rg[na]? = some xa) :
    ∃ hp', (lim Tryz.prog E00 X00).hpc 2 d 363 [.ptr ⟨0, 13, 0⟩ 1 0, .agg [iv 19, iv na, iv nb, iv nc]] hp1 = some (iv 0, hp') ∧ hp' ⟨0, 13, 0⟩ = .box 1 (bxP code inp (if xa = 0 then (nc : Int) else pc + 1) rg M rd steps en o go no) false ∧ ∀ y : Nm, y.d = 0 → y ≠ ⟨0, 13, 0⟩ → hp' y = hp1 y := by
  refine unkey ?_
  refine lim_hpcW Tryz.func363 rfl rfl bodyOk_363 rfl rfl ?_
  have hNA := fun (k : Nat) (h : k < 16) => (⟨by omega, by omega⟩ : 3 + k ≤ 25 ∧ 3 + k < 26)
  try have hA := hNA _ ha
  try have hB := hNA _ hb16
  try have hC := hNA _ hc16
  clear hNA
  try have hga' := getV hga
  try have hgb' := getV hgb
  try have hgc' := getV hgc
  obtain ⟨F, hF⟩ := skol (fun d hp (hc : hp ⟨0, 13, 0⟩ = .box 1 (bxP code inp pc rg M rd steps en o go no) false) => m399_19 na nb nc xa hpc0 hpc1 hrl d hp hc ha hga)
  have f1 := fun d hp hc => (hF d hp hc).1
  have f2 := fun d hp hc => (hF d hp hc).2.1
  have f3 := fun d hp hc => (hF d hp hc).2.2
  clear hF
  exact step4
set_option maxHeartbeats 4000000 in
theorem m363_20 {code : List Int} {inp : ByteArray} {pc : Int} {rg : List Int} {M : AV} {rd steps en : Int} {o : Bool} {go no : Nat} (na nb nc : Nat) (xa : Int) (hpc0 : 0 ≤ pc) (hpc1 : pc ≤ 4294967296)  (hrl : rg.length = 16) (d : Nat) (hp1 : Hp) (hx : hp1 ⟨0, 13, 0⟩ = .box 1 (bxP code inp pc rg M rd steps en o go no) false) (ha : na < 16) (hga : rg[na]? = some xa) :
    ∃ hp', (lim Tryz.prog E00 X00).hpc 2 d 363 [.ptr ⟨0, 13, 0⟩ 1 0, .agg [iv 20, iv na, iv nb, iv nc]] hp1 = some (iv 0, hp') ∧ hp' ⟨0, 13, 0⟩ = .box 1 (bxP code inp (if xa ≠ 0 then (nc : Int) else pc + 1) rg M rd steps en o go no) false ∧ ∀ y : Nm, y.d = 0 → y ≠ ⟨0, 13, 0⟩ → hp' y = hp1 y := by
  refine unkey ?_
  refine lim_hpcW Tryz.func363 rfl rfl bodyOk_363 rfl rfl ?_
  have hNA := fun (k : Nat) (h : k < 16) => (⟨by omega, by omega⟩ : 3 + k ≤ 25 ∧ 3 + k < 26)
  try have hA := hNA _ ha
  try have hB := hNA _ hb16
  try have hC := hNA _ hc16
  clear hNA
  try have hga' := getV hga
  try have hgb' := getV hgb
  try have hgc' := getV hgc
  obtain ⟨F, hF⟩ := skol (fun d hp (hc : hp ⟨0, 13, 0⟩ = .box 1 (bxP code inp pc rg M rd steps en o go no) false) => m399_20 na nb nc xa hpc0 hpc1 hrl d hp hc ha hga)
  have f1 := fun d hp hc => (hF d hp hc).1
  have f2 := fun d hp hc => (hF d hp hc).2.1
  have f3 := fun d hp hc => (hF d hp hc).2.2
  clear hF
  exact step4
set_option maxHeartbeats 4000000 in
theorem m363_21 {code : List Int} {inp : ByteArray} {pc : Int} {rg : List Int} {M : AV} {rd steps en : Int} {o : Bool} {go no : Nat} (na nb nc : Nat) (hpc0 : 0 ≤ pc) (hpc1 : pc ≤ 4294967296)  (hrl : rg.length = 16) (d : Nat) (hp1 : Hp) (hx : hp1 ⟨0, 13, 0⟩ = .box 1 (bxP code inp pc rg M rd steps en o go no) false) (ha : na < 16) :
    ∃ hp', (lim Tryz.prog E00 X00).hpc 2 d 363 [.ptr ⟨0, 13, 0⟩ 1 0, .agg [iv 21, iv na, iv nb, iv nc]] hp1 = some (iv 0, hp') ∧ hp' ⟨0, 13, 0⟩ = .box 1 (bxP code inp (nc : Int) (rg.set na ((pc + 1) % 4294967296)) M rd steps en o go no) false ∧ ∀ y : Nm, y.d = 0 → y ≠ ⟨0, 13, 0⟩ → hp' y = hp1 y := by
  refine unkey ?_
  refine lim_hpcW Tryz.func363 rfl rfl bodyOk_363 rfl rfl ?_
  have hNA := fun (k : Nat) (h : k < 16) => (⟨by omega, by omega⟩ : 3 + k ≤ 25 ∧ 3 + k < 26)
  try have hA := hNA _ ha
  try have hB := hNA _ hb16
  try have hC := hNA _ hc16
  clear hNA
  try have hga' := getV hga
  try have hgb' := getV hgb
  try have hgc' := getV hgc
  obtain ⟨F, hF⟩ := skol (fun d hp (hc : hp ⟨0, 13, 0⟩ = .box 1 (bxP code inp pc rg M rd steps en o go no) false) => m399_21 na nb nc hpc0 hpc1 hrl d hp hc ha)
  have f1 := fun d hp hc => (hF d hp hc).1
  have f2 := fun d hp hc => (hF d hp hc).2.1
  have f3 := fun d hp hc => (hF d hp hc).2.2
  clear hF
  exact step4
set_option maxHeartbeats 4000000 in
theorem m363_22 {code : List Int} {inp : ByteArray} {pc : Int} {rg : List Int} {M : AV} {rd steps en : Int} {o : Bool} {go no : Nat} (na nb nc : Nat) (xa : Int) (hxa : Ma.U xa) (hpc0 : 0 ≤ pc) (hpc1 : pc ≤ 4294967296)  (hrl : rg.length = 16) (d : Nat) (hp1 : Hp) (hx : hp1 ⟨0, 13, 0⟩ = .box 1 (bxP code inp pc rg M rd steps en o go no) false) (ha : na < 16) (hga : rg[na]? = some xa) :
    ∃ hp', (lim Tryz.prog E00 X00).hpc 2 d 363 [.ptr ⟨0, 13, 0⟩ 1 0, .agg [iv 22, iv na, iv nb, iv nc]] hp1 = some (iv 0, hp') ∧ hp' ⟨0, 13, 0⟩ = .box 1 (bxP code inp xa rg M rd steps en o go no) false ∧ ∀ y : Nm, y.d = 0 → y ≠ ⟨0, 13, 0⟩ → hp' y = hp1 y := by
  refine unkey ?_
  refine lim_hpcW Tryz.func363 rfl rfl bodyOk_363 rfl rfl ?_
  have hNA := fun (k : Nat) (h : k < 16) => (⟨by omega, by omega⟩ : 3 + k ≤ 25 ∧ 3 + k < 26)
  try have hA := hNA _ ha
  try have hB := hNA _ hb16
  try have hC := hNA _ hc16
  clear hNA
  try have hga' := getV hga
  try have hgb' := getV hgb
  try have hgc' := getV hgc
  obtain ⟨F, hF⟩ := skol (fun d hp (hc : hp ⟨0, 13, 0⟩ = .box 1 (bxP code inp pc rg M rd steps en o go no) false) => m399_22 na nb nc xa hxa hpc0 hpc1 hrl d hp hc ha hga)
  have f1 := fun d hp hc => (hF d hp hc).1
  have f2 := fun d hp hc => (hF d hp hc).2.1
  have f3 := fun d hp hc => (hF d hp hc).2.2
  clear hF
  exact step4
end Go.Proofs.YtaeeffddinppeaaGreatDoor
namespace Go.Proofs.YtaeeffddinppeaaGreatDoor
open Go Go.Ab Go.Ma
attribute [-simp] Prog.bind getCs putCs
attribute [local simp ↓] run_bind
attribute [local simp ↓] runF_bind
attribute [local simp] run_getCsN runF_getCsN facetsC putCs_one run_putCsN
attribute [local simp] take1 bx_len bx_0 bx_1 bx_2 bx_19 bx_20 bx_21 bx_22 bx_23 bx_24 bx_25 bx_reg bs_2 bs_19 bs_20 bs_22 bs_23 bs_24 bs_25 bs_reg bx_regg bg_0 bg_1 bg_2 bg_19 bg_20 bg_21 bg_22 bg_23 bg_24 bg_25
set_option maxHeartbeats 4000000 in
theorem m363_27i {code : List Int} {inp : ByteArray} {pc : Int} {rg : List Int} {M : AV} {rd steps en : Int} {o : Bool} {go no : Nat} (na nb nc at_ : Nat) (xb : Int) (hnc : nc ≤ 65535) (hat : (xb + nc) % 4294967296 = at_) (x : Int) (hcx : code[at_]? = some x) (hpc0 : 0 ≤ pc) (hpc1 : pc ≤ 4294967296)  (hrl : rg.length = 16) (d : Nat) (hp1 : Hp) (hx : hp1 ⟨0, 13, 0⟩ = .box 1 (bxP code inp pc rg M rd steps en o go no) false) (ha : na < 16) (hb16 : nb < 16) (hgb : rg[nb]? = some xb) :
    ∃ hp', (lim Tryz.prog E00 X00).hpc 2 d 363 [.ptr ⟨0, 13, 0⟩ 1 0, .agg [iv 27, iv na, iv nb, iv nc]] hp1 = some (iv 0, hp') ∧ hp' ⟨0, 13, 0⟩ = .box 1 (bxP code inp (pc + 1) (rg.set na x) M rd steps en o go no) false ∧ ∀ y : Nm, y.d = 0 → y ≠ ⟨0, 13, 0⟩ → hp' y = hp1 y := by
  refine unkey ?_
  refine lim_hpcW Tryz.func363 rfl rfl bodyOk_363 rfl rfl ?_
  have hNA := fun (k : Nat) (h : k < 16) => (⟨by omega, by omega⟩ : 3 + k ≤ 25 ∧ 3 + k < 26)
  try have hA := hNA _ ha
  try have hB := hNA _ hb16
  try have hC := hNA _ hc16
  clear hNA
  try have hga' := getV hga
  try have hgb' := getV hgb
  try have hgc' := getV hgc
  have hw : IntKind.i64.wrap (pc + 1) = pc + 1 := wrap64 (by omega) (by omega)
  obtain ⟨F, hF⟩ := skol (C := fun hp => hp ⟨0, 13, 0⟩ = .box 1 (bxP code inp pc rg M rd steps en o go no) false) (fun d hp (hc : hp ⟨0, 13, 0⟩ = .box 1 (bxP code inp pc rg M rd steps en o go no) false) => m400_27i na nb nc at_ xb hnc hat x hcx hrl d hp hc ha hb16 hgb)
  have f1 := fun d hp hc => (hF d hp hc).1
  have f2 := fun d hp hc => (hF d hp hc).2.1
  have f3 := fun d hp hc => (hF d hp hc).2.2
  clear hF
  exact step4
set_option maxHeartbeats 4000000 in
theorem m363_27o {code : List Int} {inp : ByteArray} {pc : Int} {rg : List Int} {M : AV} {rd steps en : Int} {o : Bool} {go no : Nat} (na nb nc at_ : Nat) (xb : Int) (hnc : nc ≤ 65535) (hat : (xb + nc) % 4294967296 = at_) (hcx : code.length ≤ at_) (hpc0 : 0 ≤ pc) (hpc1 : pc ≤ 4294967296)  (hrl : rg.length = 16) (d : Nat) (hp1 : Hp) (hx : hp1 ⟨0, 13, 0⟩ = .box 1 (bxP code inp pc rg M rd steps en o go no) false) (ha : na < 16) (hb16 : nb < 16) (hgb : rg[nb]? = some xb) :
    ∃ hp', (lim Tryz.prog E00 X00).hpc 2 d 363 [.ptr ⟨0, 13, 0⟩ 1 0, .agg [iv 27, iv na, iv nb, iv nc]] hp1 = some (iv 8, hp') ∧ hp' ⟨0, 13, 0⟩ = .box 1 (bxP code inp pc rg M rd steps en o go no) false ∧ ∀ y : Nm, y.d = 0 → y ≠ ⟨0, 13, 0⟩ → hp' y = hp1 y := by
  refine unkey ?_
  refine lim_hpcW Tryz.func363 rfl rfl bodyOk_363 rfl rfl ?_
  have hNA := fun (k : Nat) (h : k < 16) => (⟨by omega, by omega⟩ : 3 + k ≤ 25 ∧ 3 + k < 26)
  try have hA := hNA _ ha
  try have hB := hNA _ hb16
  try have hC := hNA _ hc16
  clear hNA
  try have hga' := getV hga
  try have hgb' := getV hgb
  try have hgc' := getV hgc
  have hw : IntKind.i64.wrap (pc + 1) = pc + 1 := wrap64 (by omega) (by omega)
  obtain ⟨F, hF⟩ := skol (C := fun hp => hp ⟨0, 13, 0⟩ = .box 1 (bxP code inp pc rg M rd steps en o go no) false) (fun d hp (hc : hp ⟨0, 13, 0⟩ = .box 1 (bxP code inp pc rg M rd steps en o go no) false) => m400_27o na nb nc at_ xb hnc hat hcx hrl d hp hc ha hb16 hgb)
  have f1 := fun d hp hc => (hF d hp hc).1
  have f2 := fun d hp hc => (hF d hp hc).2.1
  have f3 := fun d hp hc => (hF d hp hc).2.2
  clear hF
  exact step4
set_option maxHeartbeats 4000000 in
theorem m363_16is {code : List Int} {inp : ByteArray} {pc : Int} {rg : List Int} {M : AV} {rd steps en : Int} {o : Bool} {go no : Nat} (na nb nc at_ : Nat) (xb : Int) (hnc : nc ≤ 65535) (hat : (xb + nc) % 4294967296 = at_) (mem : List Int) (gm : Nat) (hM : M = .sl false 1 (rowW mem)) (x : Int) (hcx : mem[at_]? = some x) (hpc0 : 0 ≤ pc) (hpc1 : pc ≤ 4294967296)  (hrl : rg.length = 16) (d : Nat) (hp1 : Hp) (hx : hp1 ⟨0, 13, 0⟩ = .box 1 (bxP code inp pc rg M rd steps en o go no) false) (ha : na < 16) (hb16 : nb < 16) (hgb : rg[nb]? = some xb)  :
    ∃ hp', (lim Tryz.prog E00 X00).hpc 2 d 363 [.ptr ⟨0, 13, 0⟩ 1 0, .agg [iv 16, iv na, iv nb, iv nc]] hp1 = some (iv 0, hp') ∧ hp' ⟨0, 13, 0⟩ = .box 1 (bxP code inp (pc + 1) (rg.set na x) M rd steps en o go no) false ∧ ∀ y : Nm, y.d = 0 → y ≠ ⟨0, 13, 0⟩ → hp' y = hp1 y := by
  refine unkey ?_
  refine lim_hpcW Tryz.func363 rfl rfl bodyOk_363 rfl rfl ?_
  have hNA := fun (k : Nat) (h : k < 16) => (⟨by omega, by omega⟩ : 3 + k ≤ 25 ∧ 3 + k < 26)
  try have hA := hNA _ ha
  try have hB := hNA _ hb16
  try have hC := hNA _ hc16
  clear hNA
  try have hga' := getV hga
  try have hgb' := getV hgb
  try have hgc' := getV hgc
  have hw : IntKind.i64.wrap (pc + 1) = pc + 1 := wrap64 (by omega) (by omega)
  obtain ⟨F, hF⟩ := skol (C := fun hp => hp ⟨0, 13, 0⟩ = .box 1 (bxP code inp pc rg M rd steps en o go no) false) (fun d hp (hc : hp ⟨0, 13, 0⟩ = .box 1 (bxP code inp pc rg M rd steps en o go no) false) => m400_16is na nb nc at_ xb hnc hat mem gm hM x hcx hrl d hp hc ha hb16 hgb)
  have f1 := fun d hp hc => (hF d hp hc).1
  have f2 := fun d hp hc => (hF d hp hc).2.1
  have f3 := fun d hp hc => (hF d hp hc).2.2
  clear hF
  exact step4
set_option maxHeartbeats 4000000 in
theorem m363_16os {code : List Int} {inp : ByteArray} {pc : Int} {rg : List Int} {M : AV} {rd steps en : Int} {o : Bool} {go no : Nat} (na nb nc at_ : Nat) (xb : Int) (hnc : nc ≤ 65535) (hat : (xb + nc) % 4294967296 = at_) (mem : List Int) (gm : Nat) (hM : M = .sl false 1 (rowW mem)) (hcx : mem.length ≤ at_) (hpc0 : 0 ≤ pc) (hpc1 : pc ≤ 4294967296)  (hrl : rg.length = 16) (d : Nat) (hp1 : Hp) (hx : hp1 ⟨0, 13, 0⟩ = .box 1 (bxP code inp pc rg M rd steps en o go no) false) (ha : na < 16) (hb16 : nb < 16) (hgb : rg[nb]? = some xb)  :
    ∃ hp', (lim Tryz.prog E00 X00).hpc 2 d 363 [.ptr ⟨0, 13, 0⟩ 1 0, .agg [iv 16, iv na, iv nb, iv nc]] hp1 = some (iv 8, hp') ∧ hp' ⟨0, 13, 0⟩ = .box 1 (bxP code inp pc rg M rd steps en o go no) false ∧ ∀ y : Nm, y.d = 0 → y ≠ ⟨0, 13, 0⟩ → hp' y = hp1 y := by
  refine unkey ?_
  refine lim_hpcW Tryz.func363 rfl rfl bodyOk_363 rfl rfl ?_
  have hNA := fun (k : Nat) (h : k < 16) => (⟨by omega, by omega⟩ : 3 + k ≤ 25 ∧ 3 + k < 26)
  try have hA := hNA _ ha
  try have hB := hNA _ hb16
  try have hC := hNA _ hc16
  clear hNA
  try have hga' := getV hga
  try have hgb' := getV hgb
  try have hgc' := getV hgc
  have hw : IntKind.i64.wrap (pc + 1) = pc + 1 := wrap64 (by omega) (by omega)
  obtain ⟨F, hF⟩ := skol (C := fun hp => hp ⟨0, 13, 0⟩ = .box 1 (bxP code inp pc rg M rd steps en o go no) false) (fun d hp (hc : hp ⟨0, 13, 0⟩ = .box 1 (bxP code inp pc rg M rd steps en o go no) false) => m400_16os na nb nc at_ xb hnc hat mem gm hM hcx hrl d hp hc ha hb16 hgb)
  have f1 := fun d hp hc => (hF d hp hc).1
  have f2 := fun d hp hc => (hF d hp hc).2.1
  have f3 := fun d hp hc => (hF d hp hc).2.2
  clear hF
  exact step4
set_option maxHeartbeats 4000000 in
theorem m363_17os {code : List Int} {inp : ByteArray} {pc : Int} {rg : List Int} {M : AV} {rd steps en : Int} {o : Bool} {go no : Nat} (na nb nc at_ : Nat) (xb : Int) (hnc : nc ≤ 65535) (hat : (xb + nc) % 4294967296 = at_) (mem : List Int) (gm : Nat) (hM : M = .sl false 1 (rowW mem)) (hcx : mem.length ≤ at_) (hpc0 : 0 ≤ pc) (hpc1 : pc ≤ 4294967296)  (hrl : rg.length = 16) (d : Nat) (hp1 : Hp) (hx : hp1 ⟨0, 13, 0⟩ = .box 1 (bxP code inp pc rg M rd steps en o go no) false) (ha : na < 16) (hb16 : nb < 16) (hgb : rg[nb]? = some xb)  :
    ∃ hp', (lim Tryz.prog E00 X00).hpc 2 d 363 [.ptr ⟨0, 13, 0⟩ 1 0, .agg [iv 17, iv na, iv nb, iv nc]] hp1 = some (iv 8, hp') ∧ hp' ⟨0, 13, 0⟩ = .box 1 (bxP code inp pc rg M rd steps en o go no) false ∧ ∀ y : Nm, y.d = 0 → y ≠ ⟨0, 13, 0⟩ → hp' y = hp1 y := by
  refine unkey ?_
  refine lim_hpcW Tryz.func363 rfl rfl bodyOk_363 rfl rfl ?_
  have hNA := fun (k : Nat) (h : k < 16) => (⟨by omega, by omega⟩ : 3 + k ≤ 25 ∧ 3 + k < 26)
  try have hA := hNA _ ha
  try have hB := hNA _ hb16
  try have hC := hNA _ hc16
  clear hNA
  try have hga' := getV hga
  try have hgb' := getV hgb
  try have hgc' := getV hgc
  have hw : IntKind.i64.wrap (pc + 1) = pc + 1 := wrap64 (by omega) (by omega)
  obtain ⟨F, hF⟩ := skol (C := fun hp => hp ⟨0, 13, 0⟩ = .box 1 (bxP code inp pc rg M rd steps en o go no) false) (fun d hp (hc : hp ⟨0, 13, 0⟩ = .box 1 (bxP code inp pc rg M rd steps en o go no) false) => m400_17os na nb nc at_ xb hnc hat mem gm hM hcx hrl d hp hc ha hb16 hgb)
  have f1 := fun d hp hc => (hF d hp hc).1
  have f2 := fun d hp hc => (hF d hp hc).2.1
  have f3 := fun d hp hc => (hF d hp hc).2.2
  clear hF
  exact step4
set_option maxHeartbeats 4000000 in
theorem m363_17is {code : List Int} {inp : ByteArray} {pc : Int} {rg : List Int} {M : AV} {rd steps en : Int} {o : Bool} {go no : Nat} (na nb nc at_ : Nat) (xa xb : Int) (hnc : nc ≤ 65535) (hat : (xb + nc) % 4294967296 = at_) (mem : List Int) (gm : Nat) (hM : M = .sl false 1 (rowW mem)) (ho : o = false) (hml0 : mem.length ≤ 1048576) (hcx : at_ < mem.length) (hpc0 : 0 ≤ pc) (hpc1 : pc ≤ 4294967296)  (hrl : rg.length = 16) (d : Nat) (hp1 : Hp) (hx : hp1 ⟨0, 13, 0⟩ = .box 1 (bxP code inp pc rg M rd steps en o go no) false) (ha : na < 16) (hb16 : nb < 16) (hga : rg[na]? = some xa) (hgb : rg[nb]? = some xb)  :
    ∃ hp', (lim Tryz.prog E00 X00).hpc 2 d 363 [.ptr ⟨0, 13, 0⟩ 1 0, .agg [iv 17, iv na, iv nb, iv nc]] hp1 = some (iv 0, hp') ∧ hp' ⟨0, 13, 0⟩ = .box 1 (bxP code inp (pc + 1) rg (.own ⟨0, 13, 20⟩ ((hp1 ⟨0, 13, 20⟩).gen + 1) mem.length) rd steps en true go no) false ∧ hp' ⟨0, 13, 20⟩ = .arr ((hp1 ⟨0, 13, 20⟩).gen + 1) 1 32 (rowW (mem.set at_ xa)) false ∧ ∀ y : Nm, y.d = 0 → y ≠ ⟨0, 13, 0⟩ → y ≠ ⟨0, 13, 20⟩ → hp' y = hp1 y := by
  refine unkey ?_
  refine lim_hpcW Tryz.func363 rfl rfl bodyOk_363 rfl rfl ?_
  have hNA := fun (k : Nat) (h : k < 16) => (⟨by omega, by omega⟩ : 3 + k ≤ 25 ∧ 3 + k < 26)
  try have hA := hNA _ ha
  try have hB := hNA _ hb16
  try have hC := hNA _ hc16
  clear hNA
  try have hga' := getV hga
  try have hgb' := getV hgb
  try have hgc' := getV hgc
  have hw : IntKind.i64.wrap (pc + 1) = pc + 1 := wrap64 (by omega) (by omega)
  obtain ⟨F, hF⟩ := skol (C := fun hp => hp ⟨0, 13, 0⟩ = .box 1 (bxP code inp pc rg M rd steps en o go no) false) (fun d hp (hc : hp ⟨0, 13, 0⟩ = .box 1 (bxP code inp pc rg M rd steps en o go no) false) => m400_17is na nb nc at_ xa xb hnc hat mem gm hM ho hml0 hcx hrl d hp hc ha hb16 hga hgb)
  have f1 := fun d hp hc => (hF d hp hc).1
  have f2 := fun d hp hc => (hF d hp hc).2.1
  have f4 := fun d hp hc => (hF d hp hc).2.2.1
  have f3 := fun d hp hc => (hF d hp hc).2.2.2
  clear hF
  exact step5
set_option maxHeartbeats 4000000 in
theorem m363_16iw {code : List Int} {inp : ByteArray} {pc : Int} {rg : List Int} {M : AV} {rd steps en : Int} {o : Bool} {go no : Nat} (na nb nc at_ : Nat) (xb : Int) (hnc : nc ≤ 65535) (hat : (xb + nc) % 4294967296 = at_) (mem : List Int) (gm : Nat) (hM : M = .own ⟨0, 13, 20⟩ gm mem.length) (x : Int) (hcx : mem[at_]? = some x) (hpc0 : 0 ≤ pc) (hpc1 : pc ≤ 4294967296)  (hrl : rg.length = 16) (d : Nat) (hp1 : Hp) (hx : hp1 ⟨0, 13, 0⟩ = .box 1 (bxP code inp pc rg M rd steps en o go no) false) (ha : na < 16) (hb16 : nb < 16) (hgb : rg[nb]? = some xb) (hm : hp1 ⟨0, 13, 20⟩ = .arr gm 1 32 (rowW mem) false) :
    ∃ hp', (lim Tryz.prog E00 X00).hpc 2 d 363 [.ptr ⟨0, 13, 0⟩ 1 0, .agg [iv 16, iv na, iv nb, iv nc]] hp1 = some (iv 0, hp') ∧ hp' ⟨0, 13, 0⟩ = .box 1 (bxP code inp (pc + 1) (rg.set na x) M rd steps en o go no) false ∧ ∀ y : Nm, y.d = 0 → y ≠ ⟨0, 13, 0⟩ → hp' y = hp1 y := by
  refine unkey ?_
  refine lim_hpcW Tryz.func363 rfl rfl bodyOk_363 rfl rfl ?_
  have hNA := fun (k : Nat) (h : k < 16) => (⟨by omega, by omega⟩ : 3 + k ≤ 25 ∧ 3 + k < 26)
  try have hA := hNA _ ha
  try have hB := hNA _ hb16
  try have hC := hNA _ hc16
  clear hNA
  try have hga' := getV hga
  try have hgb' := getV hgb
  try have hgc' := getV hgc
  have hw : IntKind.i64.wrap (pc + 1) = pc + 1 := wrap64 (by omega) (by omega)
  obtain ⟨F, hF⟩ := skol (C := fun hp => hp ⟨0, 13, 0⟩ = .box 1 (bxP code inp pc rg M rd steps en o go no) false ∧ hp ⟨0, 13, 20⟩ = .arr gm 1 32 (rowW mem) false) (fun d hp (hc : hp ⟨0, 13, 0⟩ = .box 1 (bxP code inp pc rg M rd steps en o go no) false ∧ hp ⟨0, 13, 20⟩ = .arr gm 1 32 (rowW mem) false) => m400_16iw na nb nc at_ xb hnc hat mem gm hM x hcx hrl d hp hc.1 ha hb16 hgb hc.2)
  have f1 := fun d hp hc => (hF d hp hc).1
  have f2 := fun d hp hc => (hF d hp hc).2.1
  have f3 := fun d hp hc => (hF d hp hc).2.2
  clear hF
  exact step4
set_option maxHeartbeats 4000000 in
theorem m363_16ow {code : List Int} {inp : ByteArray} {pc : Int} {rg : List Int} {M : AV} {rd steps en : Int} {o : Bool} {go no : Nat} (na nb nc at_ : Nat) (xb : Int) (hnc : nc ≤ 65535) (hat : (xb + nc) % 4294967296 = at_) (mem : List Int) (gm : Nat) (hM : M = .own ⟨0, 13, 20⟩ gm mem.length) (hcx : mem.length ≤ at_) (hpc0 : 0 ≤ pc) (hpc1 : pc ≤ 4294967296)  (hrl : rg.length = 16) (d : Nat) (hp1 : Hp) (hx : hp1 ⟨0, 13, 0⟩ = .box 1 (bxP code inp pc rg M rd steps en o go no) false) (ha : na < 16) (hb16 : nb < 16) (hgb : rg[nb]? = some xb) (hm : hp1 ⟨0, 13, 20⟩ = .arr gm 1 32 (rowW mem) false) :
    ∃ hp', (lim Tryz.prog E00 X00).hpc 2 d 363 [.ptr ⟨0, 13, 0⟩ 1 0, .agg [iv 16, iv na, iv nb, iv nc]] hp1 = some (iv 8, hp') ∧ hp' ⟨0, 13, 0⟩ = .box 1 (bxP code inp pc rg M rd steps en o go no) false ∧ ∀ y : Nm, y.d = 0 → y ≠ ⟨0, 13, 0⟩ → hp' y = hp1 y := by
  refine unkey ?_
  refine lim_hpcW Tryz.func363 rfl rfl bodyOk_363 rfl rfl ?_
  have hNA := fun (k : Nat) (h : k < 16) => (⟨by omega, by omega⟩ : 3 + k ≤ 25 ∧ 3 + k < 26)
  try have hA := hNA _ ha
  try have hB := hNA _ hb16
  try have hC := hNA _ hc16
  clear hNA
  try have hga' := getV hga
  try have hgb' := getV hgb
  try have hgc' := getV hgc
  have hw : IntKind.i64.wrap (pc + 1) = pc + 1 := wrap64 (by omega) (by omega)
  obtain ⟨F, hF⟩ := skol (C := fun hp => hp ⟨0, 13, 0⟩ = .box 1 (bxP code inp pc rg M rd steps en o go no) false ∧ hp ⟨0, 13, 20⟩ = .arr gm 1 32 (rowW mem) false) (fun d hp (hc : hp ⟨0, 13, 0⟩ = .box 1 (bxP code inp pc rg M rd steps en o go no) false ∧ hp ⟨0, 13, 20⟩ = .arr gm 1 32 (rowW mem) false) => m400_16ow na nb nc at_ xb hnc hat mem gm hM hcx hrl d hp hc.1 ha hb16 hgb hc.2)
  have f1 := fun d hp hc => (hF d hp hc).1
  have f2 := fun d hp hc => (hF d hp hc).2.1
  have f3 := fun d hp hc => (hF d hp hc).2.2
  clear hF
  exact step4
set_option maxHeartbeats 4000000 in
theorem m363_17ow {code : List Int} {inp : ByteArray} {pc : Int} {rg : List Int} {M : AV} {rd steps en : Int} {o : Bool} {go no : Nat} (na nb nc at_ : Nat) (xb : Int) (hnc : nc ≤ 65535) (hat : (xb + nc) % 4294967296 = at_) (mem : List Int) (gm : Nat) (hM : M = .own ⟨0, 13, 20⟩ gm mem.length) (hcx : mem.length ≤ at_) (hpc0 : 0 ≤ pc) (hpc1 : pc ≤ 4294967296)  (hrl : rg.length = 16) (d : Nat) (hp1 : Hp) (hx : hp1 ⟨0, 13, 0⟩ = .box 1 (bxP code inp pc rg M rd steps en o go no) false) (ha : na < 16) (hb16 : nb < 16) (hgb : rg[nb]? = some xb) (hm : hp1 ⟨0, 13, 20⟩ = .arr gm 1 32 (rowW mem) false) :
    ∃ hp', (lim Tryz.prog E00 X00).hpc 2 d 363 [.ptr ⟨0, 13, 0⟩ 1 0, .agg [iv 17, iv na, iv nb, iv nc]] hp1 = some (iv 8, hp') ∧ hp' ⟨0, 13, 0⟩ = .box 1 (bxP code inp pc rg M rd steps en o go no) false ∧ ∀ y : Nm, y.d = 0 → y ≠ ⟨0, 13, 0⟩ → hp' y = hp1 y := by
  refine unkey ?_
  refine lim_hpcW Tryz.func363 rfl rfl bodyOk_363 rfl rfl ?_
  have hNA := fun (k : Nat) (h : k < 16) => (⟨by omega, by omega⟩ : 3 + k ≤ 25 ∧ 3 + k < 26)
  try have hA := hNA _ ha
  try have hB := hNA _ hb16
  try have hC := hNA _ hc16
  clear hNA
  try have hga' := getV hga
  try have hgb' := getV hgb
  try have hgc' := getV hgc
  have hw : IntKind.i64.wrap (pc + 1) = pc + 1 := wrap64 (by omega) (by omega)
  obtain ⟨F, hF⟩ := skol (C := fun hp => hp ⟨0, 13, 0⟩ = .box 1 (bxP code inp pc rg M rd steps en o go no) false ∧ hp ⟨0, 13, 20⟩ = .arr gm 1 32 (rowW mem) false) (fun d hp (hc : hp ⟨0, 13, 0⟩ = .box 1 (bxP code inp pc rg M rd steps en o go no) false ∧ hp ⟨0, 13, 20⟩ = .arr gm 1 32 (rowW mem) false) => m400_17ow na nb nc at_ xb hnc hat mem gm hM hcx hrl d hp hc.1 ha hb16 hgb hc.2)
  have f1 := fun d hp hc => (hF d hp hc).1
  have f2 := fun d hp hc => (hF d hp hc).2.1
  have f3 := fun d hp hc => (hF d hp hc).2.2
  clear hF
  exact step4
set_option maxHeartbeats 4000000 in
theorem m363_17iw {code : List Int} {inp : ByteArray} {pc : Int} {rg : List Int} {M : AV} {rd steps en : Int} {o : Bool} {go no : Nat} (na nb nc at_ : Nat) (xa xb : Int) (hnc : nc ≤ 65535) (hat : (xb + nc) % 4294967296 = at_) (mem : List Int) (gm : Nat) (hM : M = .own ⟨0, 13, 20⟩ gm mem.length) (ho : o = true) (hml0 : mem.length ≤ 1048576) (hcx : at_ < mem.length) (hpc0 : 0 ≤ pc) (hpc1 : pc ≤ 4294967296)  (hrl : rg.length = 16) (d : Nat) (hp1 : Hp) (hx : hp1 ⟨0, 13, 0⟩ = .box 1 (bxP code inp pc rg M rd steps en o go no) false) (ha : na < 16) (hb16 : nb < 16) (hga : rg[na]? = some xa) (hgb : rg[nb]? = some xb) (hm : hp1 ⟨0, 13, 20⟩ = .arr gm 1 32 (rowW mem) false) :
    ∃ hp', (lim Tryz.prog E00 X00).hpc 2 d 363 [.ptr ⟨0, 13, 0⟩ 1 0, .agg [iv 17, iv na, iv nb, iv nc]] hp1 = some (iv 0, hp') ∧ hp' ⟨0, 13, 0⟩ = .box 1 (bxP code inp (pc + 1) rg (.own ⟨0, 13, 20⟩ gm mem.length) rd steps en true go no) false ∧ hp' ⟨0, 13, 20⟩ = .arr gm 1 32 (rowW (mem.set at_ xa)) false ∧ ∀ y : Nm, y.d = 0 → y ≠ ⟨0, 13, 0⟩ → y ≠ ⟨0, 13, 20⟩ → hp' y = hp1 y := by
  refine unkey ?_
  refine lim_hpcW Tryz.func363 rfl rfl bodyOk_363 rfl rfl ?_
  have hNA := fun (k : Nat) (h : k < 16) => (⟨by omega, by omega⟩ : 3 + k ≤ 25 ∧ 3 + k < 26)
  try have hA := hNA _ ha
  try have hB := hNA _ hb16
  try have hC := hNA _ hc16
  clear hNA
  try have hga' := getV hga
  try have hgb' := getV hgb
  try have hgc' := getV hgc
  have hw : IntKind.i64.wrap (pc + 1) = pc + 1 := wrap64 (by omega) (by omega)
  obtain ⟨F, hF⟩ := skol (C := fun hp => hp ⟨0, 13, 0⟩ = .box 1 (bxP code inp pc rg M rd steps en o go no) false ∧ hp ⟨0, 13, 20⟩ = .arr gm 1 32 (rowW mem) false) (fun d hp (hc : hp ⟨0, 13, 0⟩ = .box 1 (bxP code inp pc rg M rd steps en o go no) false ∧ hp ⟨0, 13, 20⟩ = .arr gm 1 32 (rowW mem) false) => m400_17iw na nb nc at_ xa xb hnc hat mem gm hM ho hml0 hcx hrl d hp hc.1 ha hb16 hga hgb hc.2)
  have f1 := fun d hp hc => (hF d hp hc).1
  have f2 := fun d hp hc => (hF d hp hc).2.1
  have f4 := fun d hp hc => (hF d hp hc).2.2.1
  have f3 := fun d hp hc => (hF d hp hc).2.2.2
  clear hF
  exact step5
set_option maxHeartbeats 4000000 in
theorem m363_23o {code : List Int} {inp : ByteArray} {pc : Int} {rg : List Int} {M : AV} {rd steps en : Int} {o : Bool} {go no : Nat} (na nb nc : Nat) (rdn : Nat) (hrd : rd = rdn) (hr1 : inp.size ≤ rdn) (hpc0 : 0 ≤ pc) (hpc1 : pc ≤ 4294967296)  (hrl : rg.length = 16) (d : Nat) (hp1 : Hp) (hx : hp1 ⟨0, 13, 0⟩ = .box 1 (bxP code inp pc rg M rd steps en o go no) false) (ha : na < 16) :
    ∃ hp', (lim Tryz.prog E00 X00).hpc 2 d 363 [.ptr ⟨0, 13, 0⟩ 1 0, .agg [iv 23, iv na, iv nb, iv nc]] hp1 = some (iv 0, hp') ∧ hp' ⟨0, 13, 0⟩ = .box 1 (bxP code inp (pc + 1) (rg.set na 256) M rd steps en o go no) false ∧ ∀ y : Nm, y.d = 0 → y ≠ ⟨0, 13, 0⟩ → hp' y = hp1 y := by
  refine unkey ?_
  refine lim_hpcW Tryz.func363 rfl rfl bodyOk_363 rfl rfl ?_
  have hNA := fun (k : Nat) (h : k < 16) => (⟨by omega, by omega⟩ : 3 + k ≤ 25 ∧ 3 + k < 26)
  try have hA := hNA _ ha
  try have hB := hNA _ hb16
  try have hC := hNA _ hc16
  clear hNA
  try have hga' := getV hga
  try have hgb' := getV hgb
  try have hgc' := getV hgc
  have hw : IntKind.i64.wrap (pc + 1) = pc + 1 := wrap64 (by omega) (by omega)
  obtain ⟨F, hF⟩ := skol (C := fun hp => hp ⟨0, 13, 0⟩ = .box 1 (bxP code inp pc rg M rd steps en o go no) false) (fun d hp (hc : hp ⟨0, 13, 0⟩ = .box 1 (bxP code inp pc rg M rd steps en o go no) false) => m401_o na rdn hrd hr1 hrl d hp hc ha)
  have f1 := fun d hp hc => (hF d hp hc).1
  have f2 := fun d hp hc => (hF d hp hc).2.1
  have f3 := fun d hp hc => (hF d hp hc).2.2
  clear hF
  exact step4
set_option maxHeartbeats 4000000 in
theorem m363_23i {code : List Int} {inp : ByteArray} {pc : Int} {rg : List Int} {M : AV} {rd steps en : Int} {o : Bool} {go no : Nat} (na nb nc : Nat) (rdn : Nat) (hrd : rd = rdn) (b : UInt8) (hbb : inp.data[rdn]? = some b) (hsz : inp.size ≤ 1048576) (hpc0 : 0 ≤ pc) (hpc1 : pc ≤ 4294967296)  (hrl : rg.length = 16) (d : Nat) (hp1 : Hp) (hx : hp1 ⟨0, 13, 0⟩ = .box 1 (bxP code inp pc rg M rd steps en o go no) false) (ha : na < 16) :
    ∃ hp', (lim Tryz.prog E00 X00).hpc 2 d 363 [.ptr ⟨0, 13, 0⟩ 1 0, .agg [iv 23, iv na, iv nb, iv nc]] hp1 = some (iv 0, hp') ∧ hp' ⟨0, 13, 0⟩ = .box 1 (bxP code inp (pc + 1) (rg.set na (b.toNat : Int)) M ((rdn : Int) + 1) steps en o go no) false ∧ ∀ y : Nm, y.d = 0 → y ≠ ⟨0, 13, 0⟩ → hp' y = hp1 y := by
  refine unkey ?_
  refine lim_hpcW Tryz.func363 rfl rfl bodyOk_363 rfl rfl ?_
  have hNA := fun (k : Nat) (h : k < 16) => (⟨by omega, by omega⟩ : 3 + k ≤ 25 ∧ 3 + k < 26)
  try have hA := hNA _ ha
  try have hB := hNA _ hb16
  try have hC := hNA _ hc16
  clear hNA
  try have hga' := getV hga
  try have hgb' := getV hgb
  try have hgc' := getV hgc
  have hw : IntKind.i64.wrap (pc + 1) = pc + 1 := wrap64 (by omega) (by omega)
  obtain ⟨F, hF⟩ := skol (C := fun hp => hp ⟨0, 13, 0⟩ = .box 1 (bxP code inp pc rg M rd steps en o go no) false) (fun d hp (hc : hp ⟨0, 13, 0⟩ = .box 1 (bxP code inp pc rg M rd steps en o go no) false) => m401_i na rdn hrd b hbb hsz hrl d hp hc ha)
  have f1 := fun d hp hc => (hF d hp hc).1
  have f2 := fun d hp hc => (hF d hp hc).2.1
  have f3 := fun d hp hc => (hF d hp hc).2.2
  clear hF
  exact step4
set_option maxHeartbeats 4000000 in
theorem m363_opi {code : List Int} {inp : ByteArray} {pc : Int} {rg : List Int} {M : AV} {rd steps en : Int} {o : Bool} {go no : Nat} (op na nb nc : Nat) (h4 : 4 ≤ op) (h15 : op ≤ 15) (xb xc : Int) (hxb : Ma.U xb) (hxc : Ma.U xc) (v : Int) (hv : apP op xb xc = some v) (hpc0 : 0 ≤ pc) (hpc1 : pc ≤ 4294967296)  (hrl : rg.length = 16) (d : Nat) (hp1 : Hp) (hx : hp1 ⟨0, 13, 0⟩ = .box 1 (bxP code inp pc rg M rd steps en o go no) false) (ha : na < 16) (hb16 : nb < 16) (hc16 : nc < 16) (hgb : rg[nb]? = some xb) (hgc : rg[nc]? = some xc) :
    ∃ hp', (lim Tryz.prog E00 X00).hpc 2 d 363 [.ptr ⟨0, 13, 0⟩ 1 0, .agg [iv op, iv na, iv nb, iv nc]] hp1 = some (iv 0, hp') ∧ hp' ⟨0, 13, 0⟩ = .box 1 (bxP code inp (pc + 1) (rg.set na v) M rd steps en o go no) false ∧ ∀ y : Nm, y.d = 0 → y ≠ ⟨0, 13, 0⟩ → hp' y = hp1 y := by
  refine unkey ?_
  refine lim_hpcW Tryz.func363 rfl rfl bodyOk_363 rfl rfl ?_
  have hNA := fun (k : Nat) (h : k < 16) => (⟨by omega, by omega⟩ : 3 + k ≤ 25 ∧ 3 + k < 26)
  try have hA := hNA _ ha
  try have hB := hNA _ hb16
  try have hC := hNA _ hc16
  clear hNA
  try have hga' := getV hga
  try have hgb' := getV hgb
  try have hgc' := getV hgc
  have hw : IntKind.i64.wrap (pc + 1) = pc + 1 := wrap64 (by omega) (by omega)
  have h402 := m402 op xb xc h4 h15 hxb hxc
  rw [hv] at h402
  simp only [Option.getD_some, Option.getD_none, Option.isSome_some, Option.isSome_none, if_true, if_false, Bool.false_eq_true] at h402
  have e18 : ((op : Int) == 18) = false := by rw [beq_dec]; exact decide_eq_false (by omega)
  have e19 : ((op : Int) == 19) = false := by rw [beq_dec]; exact decide_eq_false (by omega)
  have e20 : ((op : Int) == 20) = false := by rw [beq_dec]; exact decide_eq_false (by omega)
  have e21 : ((op : Int) == 21) = false := by rw [beq_dec]; exact decide_eq_false (by omega)
  have e22 : ((op : Int) == 22) = false := by rw [beq_dec]; exact decide_eq_false (by omega)
  have e1 : ((op : Int) == 1) = false := by rw [beq_dec]; exact decide_eq_false (by omega)
  have e2 : ((op : Int) == 2) = false := by rw [beq_dec]; exact decide_eq_false (by omega)
  have e3 : ((op : Int) == 3) = false := by rw [beq_dec]; exact decide_eq_false (by omega)
  have e16 : ((op : Int) == 16) = false := by rw [beq_dec]; exact decide_eq_false (by omega)
  have e17 : ((op : Int) == 17) = false := by rw [beq_dec]; exact decide_eq_false (by omega)
  have e27 : ((op : Int) == 27) = false := by rw [beq_dec]; exact decide_eq_false (by omega)
  have e23 : ((op : Int) == 23) = false := by rw [beq_dec]; exact decide_eq_false (by omega)
  have e24 : ((op : Int) == 24) = false := by rw [beq_dec]; exact decide_eq_false (by omega)
  have e25 : ((op : Int) == 25) = false := by rw [beq_dec]; exact decide_eq_false (by omega)
  have e26 : ((op : Int) == 26) = false := by rw [beq_dec]; exact decide_eq_false (by omega)
  clear hv hxb hxc h4 h15
  exact step2
set_option maxHeartbeats 4000000 in
theorem m363_opo {code : List Int} {inp : ByteArray} {pc : Int} {rg : List Int} {M : AV} {rd steps en : Int} {o : Bool} {go no : Nat} (op na nb nc : Nat) (h4 : 4 ≤ op) (h15 : op ≤ 15) (xb xc : Int) (hxb : Ma.U xb) (hxc : Ma.U xc) (hv : apP op xb xc = none) (hpc0 : 0 ≤ pc) (hpc1 : pc ≤ 4294967296)  (hrl : rg.length = 16) (d : Nat) (hp1 : Hp) (hx : hp1 ⟨0, 13, 0⟩ = .box 1 (bxP code inp pc rg M rd steps en o go no) false) (ha : na < 16) (hb16 : nb < 16) (hc16 : nc < 16) (hgb : rg[nb]? = some xb) (hgc : rg[nc]? = some xc) :
    ∃ hp', (lim Tryz.prog E00 X00).hpc 2 d 363 [.ptr ⟨0, 13, 0⟩ 1 0, .agg [iv op, iv na, iv nb, iv nc]] hp1 = some (iv 2, hp') ∧ hp' ⟨0, 13, 0⟩ = .box 1 (bxP code inp pc rg M rd steps en o go no) false ∧ ∀ y : Nm, y.d = 0 → y ≠ ⟨0, 13, 0⟩ → hp' y = hp1 y := by
  refine unkey ?_
  refine lim_hpcW Tryz.func363 rfl rfl bodyOk_363 rfl rfl ?_
  have hNA := fun (k : Nat) (h : k < 16) => (⟨by omega, by omega⟩ : 3 + k ≤ 25 ∧ 3 + k < 26)
  try have hA := hNA _ ha
  try have hB := hNA _ hb16
  try have hC := hNA _ hc16
  clear hNA
  try have hga' := getV hga
  try have hgb' := getV hgb
  try have hgc' := getV hgc
  have hw : IntKind.i64.wrap (pc + 1) = pc + 1 := wrap64 (by omega) (by omega)
  have h402 := m402 op xb xc h4 h15 hxb hxc
  rw [hv] at h402
  simp only [Option.getD_some, Option.getD_none, Option.isSome_some, Option.isSome_none, if_true, if_false, Bool.false_eq_true] at h402
  have e18 : ((op : Int) == 18) = false := by rw [beq_dec]; exact decide_eq_false (by omega)
  have e19 : ((op : Int) == 19) = false := by rw [beq_dec]; exact decide_eq_false (by omega)
  have e20 : ((op : Int) == 20) = false := by rw [beq_dec]; exact decide_eq_false (by omega)
  have e21 : ((op : Int) == 21) = false := by rw [beq_dec]; exact decide_eq_false (by omega)
  have e22 : ((op : Int) == 22) = false := by rw [beq_dec]; exact decide_eq_false (by omega)
  have e1 : ((op : Int) == 1) = false := by rw [beq_dec]; exact decide_eq_false (by omega)
  have e2 : ((op : Int) == 2) = false := by rw [beq_dec]; exact decide_eq_false (by omega)
  have e3 : ((op : Int) == 3) = false := by rw [beq_dec]; exact decide_eq_false (by omega)
  have e16 : ((op : Int) == 16) = false := by rw [beq_dec]; exact decide_eq_false (by omega)
  have e17 : ((op : Int) == 17) = false := by rw [beq_dec]; exact decide_eq_false (by omega)
  have e27 : ((op : Int) == 27) = false := by rw [beq_dec]; exact decide_eq_false (by omega)
  have e23 : ((op : Int) == 23) = false := by rw [beq_dec]; exact decide_eq_false (by omega)
  have e24 : ((op : Int) == 24) = false := by rw [beq_dec]; exact decide_eq_false (by omega)
  have e25 : ((op : Int) == 25) = false := by rw [beq_dec]; exact decide_eq_false (by omega)
  have e26 : ((op : Int) == 26) = false := by rw [beq_dec]; exact decide_eq_false (by omega)
  clear hv hxb hxc h4 h15
  exact step2
end Go.Proofs.YtaeeffddinppeaaGreatDoor
