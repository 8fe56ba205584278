/- A machine set up, its state, walked. -/
import Derived.Test.YtaeeffddinppeaaGreatDoorQC
set_option linter.unusedSimpArgs false
set_option linter.unusedVariables false
namespace Go.Proofs.YtaeeffddinppeaaGreatDoor
open Go Go.Ab Go.Ma
attribute [-simp] Prog.bind getCs putCs
attribute [local simp ↓] run_bind
attribute [local simp ↓] runF_bind
attribute [local simp] run_getCsN runF_getCsN facetsC putCs_one run_putCsN
set_option maxHeartbeats 4000000 in
theorem m211 {code mem : List Int} {inp : ByteArray} {data : Int} (hp1 : Hp) (h0 : hp1 ⟨0, 13, 0⟩ = .no 0) (h1 : hp1 ⟨0, 13, 26⟩ = .no 0) :
    ∃ hp', (lim Tryz.prog E00 X00).hpc 0 13 211 [.agg [.sl false 1 (rowW code), iv data], .sc (.string inp), .agg [iv 0, uv 0, uv 0, uv 0, uv 0, uv 0, uv 0, uv 0, uv 0, uv 0, uv 0, uv 0, uv 0, uv 0, uv 0, uv 0, uv 0, .sl false 1 (rowW mem), iv 0, .sc (.string ⟨#[]⟩), iv 0, iv 0]] hp1 = some (.ptr ⟨0, 13, 0⟩ 1 0, hp') ∧ hp' ⟨0, 13, 0⟩ = .box 1 (bxP code inp 0 [0, 0, 0, 0, 0, 0, 0, 0, 0, 0, 0, 0, 0, 0, 0, 0] (.sl false 1 (rowW mem)) 0 0 0 false 1 0) false ∧ hp' ⟨0, 13, 26⟩ = .arr 1 1 5 [] false ∧ ∀ y : Nm, y.d = 0 → y.i ≠ 13 → hp' y = hp1 y := by
  have key : ∃ z hp', (lim Tryz.prog E00 X00).hpc 0 13 211 [.agg [.sl false 1 (rowW code), iv data], .sc (.string inp), .agg [iv 0, uv 0, uv 0, uv 0, uv 0, uv 0, uv 0, uv 0, uv 0, uv 0, uv 0, uv 0, uv 0, uv 0, uv 0, uv 0, uv 0, .sl false 1 (rowW mem), iv 0, .sc (.string ⟨#[]⟩), iv 0, iv 0]] hp1 = some (z, hp') ∧ (z = .ptr ⟨0, 13, 0⟩ 1 0 ∧ hp' ⟨0, 13, 0⟩ = .box 1 (bxP code inp 0 [0, 0, 0, 0, 0, 0, 0, 0, 0, 0, 0, 0, 0, 0, 0, 0] (.sl false 1 (rowW mem)) 0 0 0 false 1 0) false ∧ hp' ⟨0, 13, 26⟩ = .arr 1 1 5 [] false ∧ ∀ y : Nm, y.d = 0 → y.i ≠ 13 → hp' y = hp1 y) := by
    refine lim_hpcW (R := fun z hp' => z = .ptr ⟨0, 13, 0⟩ 1 0 ∧ hp' ⟨0, 13, 0⟩ = .box 1 (bxP code inp 0 [0, 0, 0, 0, 0, 0, 0, 0, 0, 0, 0, 0, 0, 0, 0, 0] (.sl false 1 (rowW mem)) 0 0 0 false 1 0) false ∧ hp' ⟨0, 13, 26⟩ = .arr 1 1 5 [] false ∧ ∀ y : Nm, y.d = 0 → y.i ≠ 13 → hp' y = hp1 y) Tryz.func211 rfl rfl bodyOk_211 rfl rfl ?_
    repeat' (first
      | ((with_reducible first | apply Wo_u | apply Wo_n | apply ex2 | apply W_sc | apply W_c | apply Wd_u | apply Wd_n | apply ex4 | apply EndQ_ret | apply EndQ_normal); (conv => lhs; simp -implicitDefEqProofs [*]) <;> exact rfl)
      | (with_reducible first | apply Wo_nil | apply W_ss | apply W_srl | apply W_rl | apply W_sblock | apply W_block | apply W_sskip | apply W_skip | apply W_sret | apply W_ret | apply W_sexit | apply W_exit | apply thenW_n | apply thenW_r | apply thenW_e | apply inB_n | apply inB_r | apply inB_e)
      | ((with_reducible apply Wo_gt); (exact rfl); ((conv => lhs; simp -implicitDefEqProofs [*]) <;> exact rfl); (conv => lhs; simp -implicitDefEqProofs [*]) <;> exact rfl)
      | ((with_reducible apply Wo_gf); (exact rfl); ((conv => lhs; simp -implicitDefEqProofs [*]) <;> exact rfl); (exact rfl))
      | ((with_reducible apply Wo_gx); (exact rfl); ((conv => lhs; simp -implicitDefEqProofs [*]) <;> exact rfl))
      | ((with_reducible apply Wo_gsT); (exact rfl); ((conv => lhs; simp -implicitDefEqProofs [*]) <;> exact rfl))
      | ((with_reducible apply Wo_gsF); (exact rfl); ((conv => lhs; simp -implicitDefEqProofs [*]) <;> exact rfl))
      | ((with_reducible apply Wd_gsT); (exact rfl); ((conv => lhs; simp -implicitDefEqProofs [*]) <;> exact rfl))
      | ((with_reducible apply Wd_gsF); (exact rfl); ((conv => lhs; simp -implicitDefEqProofs [*]) <;> exact rfl))
      | ((with_reducible first | apply W_srdl | apply W_rdl); kernel_rfl)
      | ((with_reducible apply Wd_nil); kernel_rfl)
      | ((with_reducible apply inB_o); rotate_left; exact rfl)
      | (intro h h'; try simp [*, -h] at h')
      | ((with_reducible apply Wd_gx); (exact rfl); ((conv => lhs; simp -implicitDefEqProofs [*]) <;> exact rfl)))
    all_goals refine ⟨by simp, ?_⟩
    all_goals (with_reducible apply ex2)
    all_goals first
      | ((conv => lhs; simp -implicitDefEqProofs [*, lowerRes, lowerV, resultV, lowerC, escC, escL, moveB, lowerL, lowerAll]) <;> exact rfl)
      | exact ⟨rfl, by simp [bxP], by simp, fun y h0 h1 => (by have e1 : ∀ k i c, y ≠ ⟨k + 1, i, c⟩ := fun k i c e => (by subst e; simp at h0); have e2 : ∀ i c, y ≠ ⟨1, i, c⟩ := fun i c => e1 0 i c; have e6 : ∀ c, y ≠ ⟨0, 13, c⟩ := fun c => ne13 h1 rfl; simp [*])⟩
  obtain ⟨z, hp', h1, rfl, h2⟩ := key
  exact ⟨hp', h1, h2⟩
set_option maxHeartbeats 4000000 in
theorem m212 {cells : List AV} {fuel : Int} (hp1 : Hp) (h0 : hp1 ⟨0, 13, 0⟩ = .box 1 cells false) (h1 : hp1 ⟨0, 16, 2⟩ = .no 0) :
    ∃ hp', (lim Tryz.prog E00 X00).hpc 0 16 212 [.ptr ⟨0, 13, 0⟩ 1 0, iv fuel] hp1 = some (.fn 284 [.dp [iv fuel] 0, .ptr ⟨0, 16, 2⟩ 1 0], hp') ∧ hp' ⟨0, 16, 2⟩ = .box 1 [.ptr ⟨0, 13, 0⟩ 1 0] false ∧ ∀ y : Nm, y.d = 0 → y ≠ ⟨0, 16, 2⟩ → hp' y = hp1 y := by
  have key : ∃ z hp', (lim Tryz.prog E00 X00).hpc 0 16 212 [.ptr ⟨0, 13, 0⟩ 1 0, iv fuel] hp1 = some (z, hp') ∧ (z = .fn 284 [.dp [iv fuel] 0, .ptr ⟨0, 16, 2⟩ 1 0] ∧ hp' ⟨0, 16, 2⟩ = .box 1 [.ptr ⟨0, 13, 0⟩ 1 0] false ∧ ∀ y : Nm, y.d = 0 → y ≠ ⟨0, 16, 2⟩ → hp' y = hp1 y) := by
    refine lim_hpcW (R := fun z hp' => z = .fn 284 [.dp [iv fuel] 0, .ptr ⟨0, 16, 2⟩ 1 0] ∧ hp' ⟨0, 16, 2⟩ = .box 1 [.ptr ⟨0, 13, 0⟩ 1 0] false ∧ ∀ y : Nm, y.d = 0 → y ≠ ⟨0, 16, 2⟩ → hp' y = hp1 y) Tryz.func212 rfl rfl bodyOk_212 rfl rfl ?_
    repeat' (first
      | ((with_reducible first | apply Wo_u | apply Wo_n | apply ex2 | apply W_sc | apply W_c | apply Wd_u | apply Wd_n | apply ex4 | apply EndQ_ret | apply EndQ_normal); (conv => lhs; simp -implicitDefEqProofs [*]) <;> exact rfl)
      | (with_reducible first | apply Wo_nil | apply W_ss | apply W_srl | apply W_rl | apply W_sblock | apply W_block | apply W_sskip | apply W_skip | apply W_sret | apply W_ret | apply W_sexit | apply W_exit | apply thenW_n | apply thenW_r | apply thenW_e | apply inB_n | apply inB_r | apply inB_e)
      | ((with_reducible apply Wo_gt); (exact rfl); ((conv => lhs; simp -implicitDefEqProofs [*]) <;> exact rfl); (conv => lhs; simp -implicitDefEqProofs [*]) <;> exact rfl)
      | ((with_reducible apply Wo_gf); (exact rfl); ((conv => lhs; simp -implicitDefEqProofs [*]) <;> exact rfl); (exact rfl))
      | ((with_reducible apply Wo_gx); (exact rfl); ((conv => lhs; simp -implicitDefEqProofs [*]) <;> exact rfl))
      | ((with_reducible apply Wo_gsT); (exact rfl); ((conv => lhs; simp -implicitDefEqProofs [*]) <;> exact rfl))
      | ((with_reducible apply Wo_gsF); (exact rfl); ((conv => lhs; simp -implicitDefEqProofs [*]) <;> exact rfl))
      | ((with_reducible apply Wd_gsT); (exact rfl); ((conv => lhs; simp -implicitDefEqProofs [*]) <;> exact rfl))
      | ((with_reducible apply Wd_gsF); (exact rfl); ((conv => lhs; simp -implicitDefEqProofs [*]) <;> exact rfl))
      | ((with_reducible first | apply W_srdl | apply W_rdl); kernel_rfl)
      | ((with_reducible apply Wd_nil); kernel_rfl)
      | ((with_reducible apply inB_o); rotate_left; exact rfl)
      | (intro h h'; try simp [*, -h] at h')
      | ((with_reducible apply Wd_gx); (exact rfl); ((conv => lhs; simp -implicitDefEqProofs [*]) <;> exact rfl)))
    all_goals refine ⟨by simp, ?_⟩
    all_goals (with_reducible apply ex2)
    all_goals first
      | ((conv => lhs; simp -implicitDefEqProofs [*, lowerRes, lowerV, resultV, lowerC, escC, escL, moveB, lowerL, lowerAll]) <;> exact rfl)
      | exact ⟨rfl, by simp, fun y h0 h1 => (by have e1 : ∀ k i c, y ≠ ⟨k + 1, i, c⟩ := fun k i c e => (by subst e; simp at h0); have e2 : ∀ i c, y ≠ ⟨1, i, c⟩ := fun i c => e1 0 i c;  simp [*])⟩
  obtain ⟨z, hp', h1, rfl, h2⟩ := key
  exact ⟨hp', h1, h2⟩
end Go.Proofs.YtaeeffddinppeaaGreatDoor

namespace Go.Proofs.YtaeeffddinppeaaGreatDoor
open Go Go.Ab Go.Ma
attribute [-simp] Prog.bind getCs putCs
attribute [local simp ↓] run_bind
attribute [local simp ↓] runF_bind
attribute [local simp] run_getCsN runF_getCsN facetsC putCs_one run_putCsN
theorem empty_app (b : ByteArray) : (⟨#[]⟩ : ByteArray) ++ b = b := by
  apply ByteArray.ext
  simp [ByteArray.data_append]
def outT (out : List Int) : ByteArray := ⟨⟨toBytes out⟩⟩
attribute [local simp] empty_app empty_size bytes_rowB
set_option maxHeartbeats 4000000 in
theorem m213se {code mem out : List Int} {inp : ByteArray} {pc rd steps en : Int} {x0 x1 x2 x3 x4 x5 x6 x7 x8 x9 x10 x11 x12 x13 x14 x15 : Int} {gm go : Nat} (hp1 : Hp) (hx : hp1 ⟨0, 13, 0⟩ = .box 1 (bxP code inp pc [x0, x1, x2, x3, x4, x5, x6, x7, x8, x9, x10, x11, x12, x13, x14, x15] (.sl false 1 (rowW mem)) rd steps en false go 0) false) (hmo : hp1 ⟨0, 13, 26⟩ = .arr go 1 5 [] false) :
    ∃ hp', (lim Tryz.prog E00 X00).hpc 0 19 213 [.ptr ⟨0, 13, 0⟩ 1 0] hp1 = some (.agg (iv pc :: uv x0 :: uv x1 :: uv x2 :: uv x3 :: uv x4 :: uv x5 :: uv x6 :: uv x7 :: uv x8 :: uv x9 :: uv x10 :: uv x11 :: uv x12 :: uv x13 :: uv x14 :: uv x15 :: .sl false 1 (rowW mem) :: iv rd :: .sc (.string (outT [])) :: iv steps :: iv en :: []), hp') ∧ ∀ y : Nm, y.d = 0 → y.i ≠ 13 → y.i ≠ 19 → hp' y = hp1 y := by
  have key : ∃ z hp', (lim Tryz.prog E00 X00).hpc 0 19 213 [.ptr ⟨0, 13, 0⟩ 1 0] hp1 = some (z, hp') ∧ (z = .agg (iv pc :: uv x0 :: uv x1 :: uv x2 :: uv x3 :: uv x4 :: uv x5 :: uv x6 :: uv x7 :: uv x8 :: uv x9 :: uv x10 :: uv x11 :: uv x12 :: uv x13 :: uv x14 :: uv x15 :: .sl false 1 (rowW mem) :: iv rd :: .sc (.string (outT [])) :: iv steps :: iv en :: []) ∧ ∀ y : Nm, y.d = 0 → y.i ≠ 13 → y.i ≠ 19 → hp' y = hp1 y) := by
    refine lim_hpcW (R := fun z hp' => z = .agg (iv pc :: uv x0 :: uv x1 :: uv x2 :: uv x3 :: uv x4 :: uv x5 :: uv x6 :: uv x7 :: uv x8 :: uv x9 :: uv x10 :: uv x11 :: uv x12 :: uv x13 :: uv x14 :: uv x15 :: .sl false 1 (rowW mem) :: iv rd :: .sc (.string (outT [])) :: iv steps :: iv en :: []) ∧ ∀ y : Nm, y.d = 0 → y.i ≠ 13 → y.i ≠ 19 → hp' y = hp1 y) Tryz.func213 rfl rfl bodyOk_213 rfl rfl ?_
    unfold bxP at hx
    simp only [List.map_cons, List.map_nil, List.cons_append, List.nil_append] at hx
    repeat' (first
      | ((with_reducible first | apply Wo_u | apply Wo_n | apply ex2 | apply W_sc | apply W_c | apply Wd_u | apply Wd_n | apply ex4 | apply EndQ_ret | apply EndQ_normal); (conv => lhs; simp -implicitDefEqProofs [*]) <;> exact rfl)
      | (with_reducible first | apply Wo_nil | apply W_ss | apply W_srl | apply W_rl | apply W_sblock | apply W_block | apply W_sskip | apply W_skip | apply W_sret | apply W_ret | apply W_sexit | apply W_exit | apply thenW_n | apply thenW_r | apply thenW_e | apply inB_n | apply inB_r | apply inB_e)
      | ((with_reducible apply Wo_gt); (exact rfl); ((conv => lhs; simp -implicitDefEqProofs [*]) <;> exact rfl); (conv => lhs; simp -implicitDefEqProofs [*]) <;> exact rfl)
      | ((with_reducible apply Wo_gf); (exact rfl); ((conv => lhs; simp -implicitDefEqProofs [*]) <;> exact rfl); (exact rfl))
      | ((with_reducible apply Wo_gx); (exact rfl); ((conv => lhs; simp -implicitDefEqProofs [*]) <;> exact rfl))
      | ((with_reducible apply Wo_gsT); (exact rfl); ((conv => lhs; simp -implicitDefEqProofs [*]) <;> exact rfl))
      | ((with_reducible apply Wo_gsF); (exact rfl); ((conv => lhs; simp -implicitDefEqProofs [*]) <;> exact rfl))
      | ((with_reducible apply Wd_gsT); (exact rfl); ((conv => lhs; simp -implicitDefEqProofs [*]) <;> exact rfl))
      | ((with_reducible apply Wd_gsF); (exact rfl); ((conv => lhs; simp -implicitDefEqProofs [*]) <;> exact rfl))
      | ((with_reducible first | apply W_srdl | apply W_rdl); kernel_rfl)
      | ((with_reducible apply Wd_nil); kernel_rfl)
      | ((with_reducible apply inB_o); rotate_left; exact rfl)
      | (intro h h'; try simp [*, -h] at h')
      | ((with_reducible apply Wd_gx); (exact rfl); ((conv => lhs; simp -implicitDefEqProofs [*]) <;> exact rfl)))
    all_goals refine ⟨by simp, ?_⟩
    all_goals (with_reducible apply ex2)
    all_goals first
      | ((conv => lhs; simp -implicitDefEqProofs [*, lowerRes, lowerV, resultV, lowerC, escC, escL, moveB, lowerL, lowerAll]) <;> exact rfl)
      | exact ⟨by simp [outT, toBytes], fun y h0 h1 h2 => (by have e1 : ∀ k i c, y ≠ ⟨k + 1, i, c⟩ := fun k i c e => (by subst e; simp at h0); have e2 : ∀ i c, y ≠ ⟨1, i, c⟩ := fun i c => e1 0 i c; have e6 : ∀ c, y ≠ ⟨0, 13, c⟩ := fun c => ne13 h1 rfl; have e7 : ∀ c, y ≠ ⟨0, 19, c⟩ := fun c e => h2 (by rw [e]); simp [*])⟩
  obtain ⟨z, hp', h1, rfl, h2⟩ := key
  exact ⟨hp', h1, h2⟩
set_option maxHeartbeats 4000000 in
theorem m213sn {code mem out : List Int} {inp : ByteArray} {pc rd steps en : Int} {x0 x1 x2 x3 x4 x5 x6 x7 x8 x9 x10 x11 x12 x13 x14 x15 : Int} {gm go : Nat} (hp1 : Hp) (hx : hp1 ⟨0, 13, 0⟩ = .box 1 (bxP code inp pc [x0, x1, x2, x3, x4, x5, x6, x7, x8, x9, x10, x11, x12, x13, x14, x15] (.sl false 1 (rowW mem)) rd steps en false go out.length) false) (hmo : hp1 ⟨0, 13, 26⟩ = .arr go 1 5 (rowB out) false) (hout : 0 < out.length) (hol : out.length ≤ 65536) :
    ∃ hp', (lim Tryz.prog E00 X00).hpc 0 19 213 [.ptr ⟨0, 13, 0⟩ 1 0] hp1 = some (.agg (iv pc :: uv x0 :: uv x1 :: uv x2 :: uv x3 :: uv x4 :: uv x5 :: uv x6 :: uv x7 :: uv x8 :: uv x9 :: uv x10 :: uv x11 :: uv x12 :: uv x13 :: uv x14 :: uv x15 :: .sl false 1 (rowW mem) :: iv rd :: .sc (.string (outT out)) :: iv steps :: iv en :: []), hp') ∧ ∀ y : Nm, y.d = 0 → y.i ≠ 13 → y.i ≠ 19 → hp' y = hp1 y := by
  have key : ∃ z hp', (lim Tryz.prog E00 X00).hpc 0 19 213 [.ptr ⟨0, 13, 0⟩ 1 0] hp1 = some (z, hp') ∧ (z = .agg (iv pc :: uv x0 :: uv x1 :: uv x2 :: uv x3 :: uv x4 :: uv x5 :: uv x6 :: uv x7 :: uv x8 :: uv x9 :: uv x10 :: uv x11 :: uv x12 :: uv x13 :: uv x14 :: uv x15 :: .sl false 1 (rowW mem) :: iv rd :: .sc (.string (outT out)) :: iv steps :: iv en :: []) ∧ ∀ y : Nm, y.d = 0 → y.i ≠ 13 → y.i ≠ 19 → hp' y = hp1 y) := by
    refine lim_hpcW (R := fun z hp' => z = .agg (iv pc :: uv x0 :: uv x1 :: uv x2 :: uv x3 :: uv x4 :: uv x5 :: uv x6 :: uv x7 :: uv x8 :: uv x9 :: uv x10 :: uv x11 :: uv x12 :: uv x13 :: uv x14 :: uv x15 :: .sl false 1 (rowW mem) :: iv rd :: .sc (.string (outT out)) :: iv steps :: iv en :: []) ∧ ∀ y : Nm, y.d = 0 → y.i ≠ 13 → y.i ≠ 19 → hp' y = hp1 y) Tryz.func213 rfl rfl bodyOk_213 rfl rfl ?_
    unfold bxP at hx
    simp only [List.map_cons, List.map_nil, List.cons_append, List.nil_append] at hx
    have v0 : (0 : Int) < out.length := by omega
    have v1 : out.length ≤ 9223372036854775807 := by omega
    have v2 : (⟨⟨toBytes out⟩⟩ : ByteArray).size = out.length := by show (toBytes out).length = _; simp [toBytes]
    have v3 : (rowB out).take out.length = rowB out := List.take_of_length_le (by simp)
    have v4 : bytesOfRows (rowB out) = some (toBytes out) := bytes_rowB out
    have v5 : (rowB out).length = out.length := List.length_map ..
    have v6 : rowB out ≠ [] := fun h => by rw [h] at v5; simp at v5; omega
    generalize rowB out = RB at *
    repeat' (first
      | ((with_reducible first | apply Wo_u | apply Wo_n | apply ex2 | apply W_sc | apply W_c | apply Wd_u | apply Wd_n | apply ex4 | apply EndQ_ret | apply EndQ_normal); (conv => lhs; simp -implicitDefEqProofs [*]) <;> exact rfl)
      | (with_reducible first | apply Wo_nil | apply W_ss | apply W_srl | apply W_rl | apply W_sblock | apply W_block | apply W_sskip | apply W_skip | apply W_sret | apply W_ret | apply W_sexit | apply W_exit | apply thenW_n | apply thenW_r | apply thenW_e | apply inB_n | apply inB_r | apply inB_e)
      | ((with_reducible apply Wo_gt); (exact rfl); ((conv => lhs; simp -implicitDefEqProofs [*]) <;> exact rfl); (conv => lhs; simp -implicitDefEqProofs [*]) <;> exact rfl)
      | ((with_reducible apply Wo_gf); (exact rfl); ((conv => lhs; simp -implicitDefEqProofs [*]) <;> exact rfl); (exact rfl))
      | ((with_reducible apply Wo_gx); (exact rfl); ((conv => lhs; simp -implicitDefEqProofs [*]) <;> exact rfl))
      | ((with_reducible apply Wo_gsT); (exact rfl); ((conv => lhs; simp -implicitDefEqProofs [*]) <;> exact rfl))
      | ((with_reducible apply Wo_gsF); (exact rfl); ((conv => lhs; simp -implicitDefEqProofs [*]) <;> exact rfl))
      | ((with_reducible apply Wd_gsT); (exact rfl); ((conv => lhs; simp -implicitDefEqProofs [*]) <;> exact rfl))
      | ((with_reducible apply Wd_gsF); (exact rfl); ((conv => lhs; simp -implicitDefEqProofs [*]) <;> exact rfl))
      | ((with_reducible first | apply W_srdl | apply W_rdl); kernel_rfl)
      | ((with_reducible apply Wd_nil); kernel_rfl)
      | ((with_reducible apply inB_o); rotate_left; exact rfl)
      | (intro h h'; try simp [*, -h] at h')
      | ((with_reducible apply Wd_gx); (exact rfl); ((conv => lhs; simp -implicitDefEqProofs [*]) <;> exact rfl)))
    all_goals refine ⟨by simp, ?_⟩
    all_goals (with_reducible apply ex2)
    all_goals first
      | ((conv => lhs; simp -implicitDefEqProofs [*, lowerRes, lowerV, resultV, lowerC, escC, escL, moveB, lowerL, lowerAll]) <;> exact rfl)
      | exact ⟨by simp [outT, toBytes], fun y h0 h1 h2 => (by have e1 : ∀ k i c, y ≠ ⟨k + 1, i, c⟩ := fun k i c e => (by subst e; simp at h0); have e2 : ∀ i c, y ≠ ⟨1, i, c⟩ := fun i c => e1 0 i c; have e6 : ∀ c, y ≠ ⟨0, 13, c⟩ := fun c => ne13 h1 rfl; have e7 : ∀ c, y ≠ ⟨0, 19, c⟩ := fun c e => h2 (by rw [e]); simp [*])⟩
  obtain ⟨z, hp', h1, rfl, h2⟩ := key
  exact ⟨hp', h1, h2⟩
set_option maxHeartbeats 4000000 in
theorem m213we {code mem out : List Int} {inp : ByteArray} {pc rd steps en : Int} {x0 x1 x2 x3 x4 x5 x6 x7 x8 x9 x10 x11 x12 x13 x14 x15 : Int} {gm go : Nat} (hp1 : Hp) (hx : hp1 ⟨0, 13, 0⟩ = .box 1 (bxP code inp pc [x0, x1, x2, x3, x4, x5, x6, x7, x8, x9, x10, x11, x12, x13, x14, x15] (.own ⟨0, 13, 20⟩ gm mem.length) rd steps en true go 0) false) (hmo : hp1 ⟨0, 13, 26⟩ = .arr go 1 5 [] false) (hm : hp1 ⟨0, 13, 20⟩ = .arr gm 1 32 (rowW mem) false) (h19 : hp1 ⟨0, 19, 18⟩ = .no 0) :
    ∃ hp', (lim Tryz.prog E00 X00).hpc 0 19 213 [.ptr ⟨0, 13, 0⟩ 1 0] hp1 = some (.agg (iv pc :: uv x0 :: uv x1 :: uv x2 :: uv x3 :: uv x4 :: uv x5 :: uv x6 :: uv x7 :: uv x8 :: uv x9 :: uv x10 :: uv x11 :: uv x12 :: uv x13 :: uv x14 :: uv x15 :: .own ⟨0, 19, 18⟩ 1 mem.length :: iv rd :: .sc (.string (outT [])) :: iv steps :: iv en :: []), hp') ∧ hp' ⟨0, 19, 18⟩ = .arr 1 1 32 (rowW mem) false ∧ ∀ y : Nm, y.d = 0 → y.i ≠ 13 → y.i ≠ 19 → hp' y = hp1 y := by
  have key : ∃ z hp', (lim Tryz.prog E00 X00).hpc 0 19 213 [.ptr ⟨0, 13, 0⟩ 1 0] hp1 = some (z, hp') ∧ (z = .agg (iv pc :: uv x0 :: uv x1 :: uv x2 :: uv x3 :: uv x4 :: uv x5 :: uv x6 :: uv x7 :: uv x8 :: uv x9 :: uv x10 :: uv x11 :: uv x12 :: uv x13 :: uv x14 :: uv x15 :: .own ⟨0, 19, 18⟩ 1 mem.length :: iv rd :: .sc (.string (outT [])) :: iv steps :: iv en :: []) ∧ hp' ⟨0, 19, 18⟩ = .arr 1 1 32 (rowW mem) false ∧ ∀ y : Nm, y.d = 0 → y.i ≠ 13 → y.i ≠ 19 → hp' y = hp1 y) := by
    refine lim_hpcW (R := fun z hp' => z = .agg (iv pc :: uv x0 :: uv x1 :: uv x2 :: uv x3 :: uv x4 :: uv x5 :: uv x6 :: uv x7 :: uv x8 :: uv x9 :: uv x10 :: uv x11 :: uv x12 :: uv x13 :: uv x14 :: uv x15 :: .own ⟨0, 19, 18⟩ 1 mem.length :: iv rd :: .sc (.string (outT [])) :: iv steps :: iv en :: []) ∧ hp' ⟨0, 19, 18⟩ = .arr 1 1 32 (rowW mem) false ∧ ∀ y : Nm, y.d = 0 → y.i ≠ 13 → y.i ≠ 19 → hp' y = hp1 y) Tryz.func213 rfl rfl bodyOk_213 rfl rfl ?_
    unfold bxP at hx
    simp only [List.map_cons, List.map_nil, List.cons_append, List.nil_append] at hx
    have w5 : (rowW mem).length = mem.length := List.length_map ..
    generalize rowW mem = RM at *
    repeat' (first
      | ((with_reducible first | apply Wo_u | apply Wo_n | apply ex2 | apply W_sc | apply W_c | apply Wd_u | apply Wd_n | apply ex4 | apply EndQ_ret | apply EndQ_normal); (conv => lhs; simp -implicitDefEqProofs [*]) <;> exact rfl)
      | (with_reducible first | apply Wo_nil | apply W_ss | apply W_srl | apply W_rl | apply W_sblock | apply W_block | apply W_sskip | apply W_skip | apply W_sret | apply W_ret | apply W_sexit | apply W_exit | apply thenW_n | apply thenW_r | apply thenW_e | apply inB_n | apply inB_r | apply inB_e)
      | ((with_reducible apply Wo_gt); (exact rfl); ((conv => lhs; simp -implicitDefEqProofs [*]) <;> exact rfl); (conv => lhs; simp -implicitDefEqProofs [*]) <;> exact rfl)
      | ((with_reducible apply Wo_gf); (exact rfl); ((conv => lhs; simp -implicitDefEqProofs [*]) <;> exact rfl); (exact rfl))
      | ((with_reducible apply Wo_gx); (exact rfl); ((conv => lhs; simp -implicitDefEqProofs [*]) <;> exact rfl))
      | ((with_reducible apply Wo_gsT); (exact rfl); ((conv => lhs; simp -implicitDefEqProofs [*]) <;> exact rfl))
      | ((with_reducible apply Wo_gsF); (exact rfl); ((conv => lhs; simp -implicitDefEqProofs [*]) <;> exact rfl))
      | ((with_reducible apply Wd_gsT); (exact rfl); ((conv => lhs; simp -implicitDefEqProofs [*]) <;> exact rfl))
      | ((with_reducible apply Wd_gsF); (exact rfl); ((conv => lhs; simp -implicitDefEqProofs [*]) <;> exact rfl))
      | ((with_reducible first | apply W_srdl | apply W_rdl); kernel_rfl)
      | ((with_reducible apply Wd_nil); kernel_rfl)
      | ((with_reducible apply inB_o); rotate_left; exact rfl)
      | (intro h h'; try simp [*, -h] at h')
      | ((with_reducible apply Wd_gx); (exact rfl); ((conv => lhs; simp -implicitDefEqProofs [*]) <;> exact rfl)))
    all_goals refine ⟨by simp, ?_⟩
    all_goals (with_reducible apply ex2)
    all_goals first
      | ((conv => lhs; simp -implicitDefEqProofs [*, lowerRes, lowerV, resultV, lowerC, escC, escL, moveB, lowerL, lowerAll]) <;> exact rfl)
      | exact ⟨by simp [outT, toBytes], by simp, fun y h0 h1 h2 => (by have e1 : ∀ k i c, y ≠ ⟨k + 1, i, c⟩ := fun k i c e => (by subst e; simp at h0); have e2 : ∀ i c, y ≠ ⟨1, i, c⟩ := fun i c => e1 0 i c; have e6 : ∀ c, y ≠ ⟨0, 13, c⟩ := fun c => ne13 h1 rfl; have e7 : ∀ c, y ≠ ⟨0, 19, c⟩ := fun c e => h2 (by rw [e]); simp [*])⟩
  obtain ⟨z, hp', h1, rfl, h2⟩ := key
  exact ⟨hp', h1, h2⟩
set_option maxHeartbeats 4000000 in
theorem m213wn {code mem out : List Int} {inp : ByteArray} {pc rd steps en : Int} {x0 x1 x2 x3 x4 x5 x6 x7 x8 x9 x10 x11 x12 x13 x14 x15 : Int} {gm go : Nat} (hp1 : Hp) (hx : hp1 ⟨0, 13, 0⟩ = .box 1 (bxP code inp pc [x0, x1, x2, x3, x4, x5, x6, x7, x8, x9, x10, x11, x12, x13, x14, x15] (.own ⟨0, 13, 20⟩ gm mem.length) rd steps en true go out.length) false) (hmo : hp1 ⟨0, 13, 26⟩ = .arr go 1 5 (rowB out) false) (hout : 0 < out.length) (hol : out.length ≤ 65536) (hm : hp1 ⟨0, 13, 20⟩ = .arr gm 1 32 (rowW mem) false) (h19 : hp1 ⟨0, 19, 18⟩ = .no 0) :
    ∃ hp', (lim Tryz.prog E00 X00).hpc 0 19 213 [.ptr ⟨0, 13, 0⟩ 1 0] hp1 = some (.agg (iv pc :: uv x0 :: uv x1 :: uv x2 :: uv x3 :: uv x4 :: uv x5 :: uv x6 :: uv x7 :: uv x8 :: uv x9 :: uv x10 :: uv x11 :: uv x12 :: uv x13 :: uv x14 :: uv x15 :: .own ⟨0, 19, 18⟩ 1 mem.length :: iv rd :: .sc (.string (outT out)) :: iv steps :: iv en :: []), hp') ∧ hp' ⟨0, 19, 18⟩ = .arr 1 1 32 (rowW mem) false ∧ ∀ y : Nm, y.d = 0 → y.i ≠ 13 → y.i ≠ 19 → hp' y = hp1 y := by
  have key : ∃ z hp', (lim Tryz.prog E00 X00).hpc 0 19 213 [.ptr ⟨0, 13, 0⟩ 1 0] hp1 = some (z, hp') ∧ (z = .agg (iv pc :: uv x0 :: uv x1 :: uv x2 :: uv x3 :: uv x4 :: uv x5 :: uv x6 :: uv x7 :: uv x8 :: uv x9 :: uv x10 :: uv x11 :: uv x12 :: uv x13 :: uv x14 :: uv x15 :: .own ⟨0, 19, 18⟩ 1 mem.length :: iv rd :: .sc (.string (outT out)) :: iv steps :: iv en :: []) ∧ hp' ⟨0, 19, 18⟩ = .arr 1 1 32 (rowW mem) false ∧ ∀ y : Nm, y.d = 0 → y.i ≠ 13 → y.i ≠ 19 → hp' y = hp1 y) := by
    refine lim_hpcW (R := fun z hp' => z = .agg (iv pc :: uv x0 :: uv x1 :: uv x2 :: uv x3 :: uv x4 :: uv x5 :: uv x6 :: uv x7 :: uv x8 :: uv x9 :: uv x10 :: uv x11 :: uv x12 :: uv x13 :: uv x14 :: uv x15 :: .own ⟨0, 19, 18⟩ 1 mem.length :: iv rd :: .sc (.string (outT out)) :: iv steps :: iv en :: []) ∧ hp' ⟨0, 19, 18⟩ = .arr 1 1 32 (rowW mem) false ∧ ∀ y : Nm, y.d = 0 → y.i ≠ 13 → y.i ≠ 19 → hp' y = hp1 y) Tryz.func213 rfl rfl bodyOk_213 rfl rfl ?_
    unfold bxP at hx
    simp only [List.map_cons, List.map_nil, List.cons_append, List.nil_append] at hx
    have v0 : (0 : Int) < out.length := by omega
    have v1 : out.length ≤ 9223372036854775807 := by omega
    have v2 : (⟨⟨toBytes out⟩⟩ : ByteArray).size = out.length := by show (toBytes out).length = _; simp [toBytes]
    have v3 : (rowB out).take out.length = rowB out := List.take_of_length_le (by simp)
    have v4 : bytesOfRows (rowB out) = some (toBytes out) := bytes_rowB out
    have v5 : (rowB out).length = out.length := List.length_map ..
    have v6 : rowB out ≠ [] := fun h => by rw [h] at v5; simp at v5; omega
    generalize rowB out = RB at *
    have w5 : (rowW mem).length = mem.length := List.length_map ..
    generalize rowW mem = RM at *
    repeat' (first
      | ((with_reducible first | apply Wo_u | apply Wo_n | apply ex2 | apply W_sc | apply W_c | apply Wd_u | apply Wd_n | apply ex4 | apply EndQ_ret | apply EndQ_normal); (conv => lhs; simp -implicitDefEqProofs [*]) <;> exact rfl)
      | (with_reducible first | apply Wo_nil | apply W_ss | apply W_srl | apply W_rl | apply W_sblock | apply W_block | apply W_sskip | apply W_skip | apply W_sret | apply W_ret | apply W_sexit | apply W_exit | apply thenW_n | apply thenW_r | apply thenW_e | apply inB_n | apply inB_r | apply inB_e)
      | ((with_reducible apply Wo_gt); (exact rfl); ((conv => lhs; simp -implicitDefEqProofs [*]) <;> exact rfl); (conv => lhs; simp -implicitDefEqProofs [*]) <;> exact rfl)
      | ((with_reducible apply Wo_gf); (exact rfl); ((conv => lhs; simp -implicitDefEqProofs [*]) <;> exact rfl); (exact rfl))
      | ((with_reducible apply Wo_gx); (exact rfl); ((conv => lhs; simp -implicitDefEqProofs [*]) <;> exact rfl))
      | ((with_reducible apply Wo_gsT); (exact rfl); ((conv => lhs; simp -implicitDefEqProofs [*]) <;> exact rfl))
      | ((with_reducible apply Wo_gsF); (exact rfl); ((conv => lhs; simp -implicitDefEqProofs [*]) <;> exact rfl))
      | ((with_reducible apply Wd_gsT); (exact rfl); ((conv => lhs; simp -implicitDefEqProofs [*]) <;> exact rfl))
      | ((with_reducible apply Wd_gsF); (exact rfl); ((conv => lhs; simp -implicitDefEqProofs [*]) <;> exact rfl))
      | ((with_reducible first | apply W_srdl | apply W_rdl); kernel_rfl)
      | ((with_reducible apply Wd_nil); kernel_rfl)
      | ((with_reducible apply inB_o); rotate_left; exact rfl)
      | (intro h h'; try simp [*, -h] at h')
      | ((with_reducible apply Wd_gx); (exact rfl); ((conv => lhs; simp -implicitDefEqProofs [*]) <;> exact rfl)))
    all_goals refine ⟨by simp, ?_⟩
    all_goals (with_reducible apply ex2)
    all_goals first
      | ((conv => lhs; simp -implicitDefEqProofs [*, lowerRes, lowerV, resultV, lowerC, escC, escL, moveB, lowerL, lowerAll]) <;> exact rfl)
      | exact ⟨by simp [outT, toBytes], by simp, fun y h0 h1 h2 => (by have e1 : ∀ k i c, y ≠ ⟨k + 1, i, c⟩ := fun k i c e => (by subst e; simp at h0); have e2 : ∀ i c, y ≠ ⟨1, i, c⟩ := fun i c => e1 0 i c; have e6 : ∀ c, y ≠ ⟨0, 13, c⟩ := fun c => ne13 h1 rfl; have e7 : ∀ c, y ≠ ⟨0, 19, c⟩ := fun c e => h2 (by rw [e]); simp [*])⟩
  obtain ⟨z, hp', h1, rfl, h2⟩ := key
  exact ⟨hp', h1, h2⟩
end Go.Proofs.YtaeeffddinppeaaGreatDoor
