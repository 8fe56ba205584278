/- A part of the proof: Dc. -/
import Derived.Test.YtaeeffddinppeaaGreatDoorC24
import Derived.Test.YtaeeffddinppeaaGreatDoorC25
set_option linter.unusedSimpArgs false
set_option linter.unusedVariables false
namespace Go.Proofs.YtaeeffddinppeaaGreatDoor
open Go Go.Ab
attribute [-simp] Prog.bind getCs putCs
attribute [local simp ↓] run_bind
attribute [local simp ↓] runF_bind
attribute [local simp] run_getCsN runF_getCsN facetsC putCs_one run_putCsN runF_putCsN facetsW facetsH
attribute [local simp ↓] evInt_xor evInt_or evInt_and64
structure D4 where
  d0 : Int
  d1 : Int
  d2 : Int
  d3 : Int
deriving DecidableEq
def D4.row (d : D4) : List AV := [uv d.d0, uv d.d1, uv d.d2, uv d.d3]
def takeP (s : S8) (b : D4) : S8 := mixN 8 ⟨xorW s.a0 b.d0, xorW s.a1 b.d1, xorW s.a2 b.d2, xorW s.a3 b.d3, s.a4, s.a5, s.a6, s.a7⟩
def front (s : S8) : D4 := ⟨s.a0, s.a1, s.a2, s.a3⟩
set_option maxRecDepth 20000 in
set_option maxHeartbeats 4000000 in
theorem e45 (s : S8) (b : D4) : (lim Tryz.prog E47 X47).dat 56 [.agg s.row, .agg b.row] = some [.agg (takeP s b).row] := by
  refine fnW Tryz.func56 rfl rfl bodyOk_56 rfl rtys_56 rfl ?_
  obtain ⟨x0, x1, x2, x3, x4, x5, x6, x7⟩ := s
  obtain ⟨b0, b1, b2, b3⟩ := b
  have hm := e60 ⟨xorW x0 b0, xorW x1 b1, xorW x2 b2, xorW x3 b3, x4, x5, x6, x7⟩
  unfold takeP
  simp only
  generalize mixN 8 ⟨xorW x0 b0, xorW x1 b1, xorW x2 b2, xorW x3 b3, x4, x5, x6, x7⟩ = z at *
  obtain ⟨z0, z1, z2, z3, z4, z5, z6, z7⟩ := z
  simp only [S8.row] at hm
  simp only [S8.row, D4.row]
  repeat' (first | ((with_reducible first | apply Wo_u | apply Wo_n | apply ex2 | apply W_sc | apply W_c | apply Wd_u | apply Wd_n | apply ex4 | apply EndQ_ret | apply EndQ_normal); (conv => lhs; simp -implicitDefEqProofs [*]) <;> exact rfl) | (with_reducible first | apply Wo_nil | apply W_ss | apply W_srl | apply W_rl | apply W_sblock | apply W_block | apply W_sskip | apply W_skip | apply W_sret | apply W_ret | apply W_sexit | apply W_exit | apply thenW_n | apply thenW_r | apply thenW_e | apply inB_n | apply inB_r | apply inB_e) | ((with_reducible apply Wo_gt); (exact rfl); ((conv => lhs; simp -implicitDefEqProofs [*]) <;> exact rfl); (conv => lhs; simp -implicitDefEqProofs [*]) <;> exact rfl) | ((with_reducible apply Wo_gf); (exact rfl); ((conv => lhs; simp -implicitDefEqProofs [*]) <;> exact rfl); (exact rfl)) | ((with_reducible apply Wo_gx); (exact rfl); ((conv => lhs; simp -implicitDefEqProofs [*]) <;> exact rfl)) | ((with_reducible apply Wo_gsT); (exact rfl); ((conv => lhs; simp -implicitDefEqProofs [*]) <;> exact rfl)) | ((with_reducible apply Wo_gsF); (exact rfl); ((conv => lhs; simp -implicitDefEqProofs [*]) <;> exact rfl)) | ((with_reducible apply Wd_gsT); (exact rfl); ((conv => lhs; simp -implicitDefEqProofs [*]) <;> exact rfl)) | ((with_reducible apply Wd_gsF); (exact rfl); ((conv => lhs; simp -implicitDefEqProofs [*]) <;> exact rfl)) | ((with_reducible first | apply W_srdl | apply W_rdl); kernel_rfl) | ((with_reducible apply Wd_nil); exact rfl) | ((with_reducible apply inB_o); rotate_left; exact rfl) | (intro h h'; try simp [*, -h] at h') | with_reducible apply W_unroll)
  all_goals rfl
def four (s : ByteArray) (i : Nat) : D4 := ⟨wordAt s i, wordAt s (i + 4), wordAt s (i + 8), wordAt s (i + 12)⟩
@[simp] theorem shl8 (w : Int) : w * 2 ^ min 8 IntKind.u32.bits = w * 256 := by rw [show (2 : Int) ^ min 8 IntKind.u32.bits = 256 from by decide +kernel]
@[simp] theorem shl16 (w : Int) : w * 2 ^ min 16 IntKind.u32.bits = w * 65536 := by rw [show (2 : Int) ^ min 16 IntKind.u32.bits = 65536 from by decide +kernel]
@[simp] theorem shl24 (w : Int) : w * 2 ^ min 24 IntKind.u32.bits = w * 16777216 := by rw [show (2 : Int) ^ min 24 IntKind.u32.bits = 16777216 from by decide +kernel]
def w4 (s : ByteArray) (i : Nat) : Nat → List AV
  | 0 => [uv 0, uv 0, uv 0, uv 0]
  | 1 => [uv (wordAt s i), uv 0, uv 0, uv 0]
  | 2 => [uv (wordAt s i), uv (wordAt s (i + 4)), uv 0, uv 0]
  | 3 => [uv (wordAt s i), uv (wordAt s (i + 4)), uv (wordAt s (i + 8)), uv 0]
  | _ => [uv (wordAt s i), uv (wordAt s (i + 4)), uv (wordAt s (i + 8)), uv (wordAt s (i + 12))]
end Go.Proofs.YtaeeffddinppeaaGreatDoor
