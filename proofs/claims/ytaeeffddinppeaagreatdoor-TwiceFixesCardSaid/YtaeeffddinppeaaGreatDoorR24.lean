/- A part of the proof: Dc. -/
import Derived.Test.YtaeeffddinppeaaGreatDoorR22
import Derived.Test.YtaeeffddinppeaaGreatDoorR23
set_option linter.unusedSimpArgs false
set_option linter.unusedVariables false
namespace Go.Proofs.YtaeeffddinppeaaGreatDoor
open Go Go.Ab
attribute [-simp] Prog.bind getCs putCs
attribute [local simp ↓] run_bind
attribute [local simp ↓] runF_bind
attribute [local simp] run_getCsN runF_getCsN facetsC putCs_one run_putCsN runF_putCsN facetsW facetsH
attribute [local simp ↓] evInt_xor evInt_or evInt_and64
structure D4 where
  d0 : Int
  d1 : Int
  d2 : Int
  d3 : Int
deriving DecidableEq
def D4.row (d : D4) : List AV := [uv d.d0, uv d.d1, uv d.d2, uv d.d3]
def takeP (s : S8) (b : D4) : S8 := mixN 8 ⟨xorW s.a0 b.d0, xorW s.a1 b.d1, xorW s.a2 b.d2, xorW s.a3 b.d3, s.a4, s.a5, s.a6, s.a7⟩
def front (s : S8) : D4 := ⟨s.a0, s.a1, s.a2, s.a3⟩
set_option maxRecDepth 20000 in
set_option maxHeartbeats 4000000 in
theorem e51 (s : S8) (b : D4) : (lim Tryz.prog E47 X47).dat 44 [.agg s.row, .agg b.row] = some [.agg (takeP s b).row] := by
  refine fnW Tryz.func44 rfl rfl bodyOk_44 rfl rtys_44 rfl ?_
  obtain ⟨x0, x1, x2, x3, x4, x5, x6, x7⟩ := s
  obtain ⟨b0, b1, b2, b3⟩ := b
  have hm := e66 ⟨xorW x0 b0, xorW x1 b1, xorW x2 b2, xorW x3 b3, x4, x5, x6, x7⟩
  unfold takeP
  simp only
  generalize mixN 8 ⟨xorW x0 b0, xorW x1 b1, xorW x2 b2, xorW x3 b3, x4, x5, x6, x7⟩ = z at *
  obtain ⟨z0, z1, z2, z3, z4, z5, z6, z7⟩ := z
  simp only [S8.row] at hm
  simp only [S8.row, D4.row]
  exact step12
set_option maxRecDepth 20000 in
set_option maxHeartbeats 4000000 in
theorem e45 (s : S8) (b : D4) : (lim Tryz.prog E47 X47).dat 56 [.agg s.row, .agg b.row] = some [.agg (takeP s b).row] := by
  refine fnW Tryz.func56 rfl rfl bodyOk_56 rfl rtys_56 rfl ?_
  obtain ⟨x0, x1, x2, x3, x4, x5, x6, x7⟩ := s
  obtain ⟨b0, b1, b2, b3⟩ := b
  have hm := e60 ⟨xorW x0 b0, xorW x1 b1, xorW x2 b2, xorW x3 b3, x4, x5, x6, x7⟩
  unfold takeP
  simp only
  generalize mixN 8 ⟨xorW x0 b0, xorW x1 b1, xorW x2 b2, xorW x3 b3, x4, x5, x6, x7⟩ = z at *
  obtain ⟨z0, z1, z2, z3, z4, z5, z6, z7⟩ := z
  simp only [S8.row] at hm
  simp only [S8.row, D4.row]
  exact step12
theorem e50 (s : S8) : (lim Tryz.prog E47 X47).dat 47 [.agg s.row] = some [.agg (front s).row] := by
  refine fnW Tryz.func47 rfl rfl bodyOk_47 rfl rtys_47 rfl ?_
  obtain ⟨x0, x1, x2, x3, x4, x5, x6, x7⟩ := s
  simp only [S8.row, D4.row, front]
  exact step7
theorem orW_word (a b c d : UInt8) : orW (orW (orW (a.toNat : Int) (b.toNat * 256)) (c.toNat * 65536)) (d.toNat * 16777216) = (a.toNat : Int) + 256 * b.toNat + 65536 * c.toNat + 16777216 * d.toNat := by
  have ha := a.toNat_lt
  have hb := b.toNat_lt
  have hc := c.toNat_lt
  have hd := d.toNat_lt
  have c1 : (b.toNat : Int) * 256 = ((b.toNat * 256 : Nat) : Int) := by omega
  have c2 : (c.toNat : Int) * 65536 = ((c.toNat * 65536 : Nat) : Int) := by omega
  have c3 : (d.toNat : Int) * 16777216 = ((d.toNat * 16777216 : Nat) : Int) := by omega
  have o1 := or_add (x := a.toNat) (y := b.toNat) 8 (by omega)
  have o2 := or_add (x := a.toNat + b.toNat * 256) (y := c.toNat) 16 (by omega)
  have o3 := or_add (x := a.toNat + b.toNat * 256 + c.toNat * 65536) (y := d.toNat) 24 (by omega)
  rw [show (2 : Nat) ^ 8 = 256 from rfl] at o1
  rw [show (2 : Nat) ^ 16 = 65536 from rfl] at o2
  rw [show (2 : Nat) ^ 24 = 16777216 from rfl] at o3
  rw [c1, c2, c3, orW_nat (by omega) (by omega), o1, orW_nat (by omega) (by omega), o2, orW_nat (by omega) (by omega), o3]
  omega
def four (s : ByteArray) (i : Nat) : D4 := ⟨wordAt s i, wordAt s (i + 4), wordAt s (i + 8), wordAt s (i + 12)⟩
@[simp] theorem shl8 (w : Int) : w * 2 ^ min 8 IntKind.u32.bits = w * 256 := by rw [show (2 : Int) ^ min 8 IntKind.u32.bits = 256 from by decide +kernel]
@[simp] theorem shl16 (w : Int) : w * 2 ^ min 16 IntKind.u32.bits = w * 65536 := by rw [show (2 : Int) ^ min 16 IntKind.u32.bits = 65536 from by decide +kernel]
@[simp] theorem shl24 (w : Int) : w * 2 ^ min 24 IntKind.u32.bits = w * 16777216 := by rw [show (2 : Int) ^ min 24 IntKind.u32.bits = 16777216 from by decide +kernel]
def w4 (s : ByteArray) (i : Nat) : Nat → List AV
  | 0 => [uv 0, uv 0, uv 0, uv 0]
  | 1 => [uv (wordAt s i), uv 0, uv 0, uv 0]
  | 2 => [uv (wordAt s i), uv (wordAt s (i + 4)), uv 0, uv 0]
  | 3 => [uv (wordAt s i), uv (wordAt s (i + 4)), uv (wordAt s (i + 8)), uv 0]
  | _ => [uv (wordAt s i), uv (wordAt s (i + 4)), uv (wordAt s (i + 8)), uv (wordAt s (i + 12))]
set_option maxRecDepth 20000 in
set_option maxHeartbeats 16000000 in
theorem e52 (s : ByteArray) (at_ : Nat) (hs : s.size ≤ 1048576) (ha : at_ + 16 ≤ s.size) : (lim Tryz.prog E47 X47).dat 45 [.sc (.string s), iv at_] = some [.agg (four s at_).row] := by
  refine fnW Tryz.func45 rfl rfl bodyOk_45 rfl rtys_45 rfl ?_
  refine sgo1 ?_
  refine W_loopS (n := 4) (fun s0 m q => ∃ k : Nat, m = 4 - k ∧ k ≤ 4 ∧ q.fr 8 = iv k ∧ q.hp ⟨0, 5, 0⟩ = .box 1 (w4 s at_ k) false ∧ q.fr 0 = s0.fr 0 ∧ q.fr 1 = s0.fr 1 ∧ q.fr 4 = s0.fr 4 ∧ q.fr 5 = s0.fr 5 ∧ q.hp ⟨0, 4, 0⟩ = s0.hp ⟨0, 4, 0⟩) ⟨0, by simp, by omega, by simp, by simp [w4], by simp, by simp, by simp, by simp, by simp⟩ ?_
  rintro m ⟨fr, hp⟩ ⟨k, rfl, hk, hs8, hh5, hs0, hs1, hs4, hs5, hh4⟩
  simp at hs8 hs0 hs1 hs4 hs5 hh4
  simp only at hh5
  have hk4 : k = 0 ∨ k = 1 ∨ k = 2 ∨ k = 3 ∨ k = 4 := by omega
  rcases hk4 with rfl | rfl | rfl | rfl | rfl
  · simp only [w4] at hh5
    obtain ⟨b, hb⟩ : ∃ b : Nat, b = at_ + 0 := ⟨_, rfl⟩
    have wb : IntKind.i64.wrap ((b : Int)) = b := by rw [wrap64 (by omega) (by omega)]; try omega
    have wz : at_ = b := by omega
    obtain ⟨B0, h0, e0⟩ := byte_data (s := s) (i := b) (by omega)
    have v0 := B0.toNat_lt
    have u0 : IntKind.u32.wrap (B0.toNat : Int) = B0.toNat := by rw [IntKind.wrap_u32]; omega
    obtain ⟨B1, h1, e1⟩ := byte_data (s := s) (i := b + 1) (by omega)
    have v1 := B1.toNat_lt
    have u1 : IntKind.u32.wrap (B1.toNat : Int) = B1.toNat := by rw [IntKind.wrap_u32]; omega
    have w1 : IntKind.i64.wrap ((b : Int) + 1) = (b : Int) + 1 := wrap64 (by omega) (by omega)
    have p1 : (0 : Int) ≤ (b : Int) + 1 := by omega
    have t1 : ((b : Int) + 1).toNat = b + 1 := by omega
    have s1 : IntKind.u32.wrap ((B1.toNat : Int) * 256) = B1.toNat * 256 := by rw [IntKind.wrap_u32]; omega
    obtain ⟨B2, h2, e2⟩ := byte_data (s := s) (i := b + 2) (by omega)
    have v2 := B2.toNat_lt
    have u2 : IntKind.u32.wrap (B2.toNat : Int) = B2.toNat := by rw [IntKind.wrap_u32]; omega
    have w2 : IntKind.i64.wrap ((b : Int) + 2) = (b : Int) + 2 := wrap64 (by omega) (by omega)
    have p2 : (0 : Int) ≤ (b : Int) + 2 := by omega
    have t2 : ((b : Int) + 2).toNat = b + 2 := by omega
    have s2 : IntKind.u32.wrap ((B2.toNat : Int) * 65536) = B2.toNat * 65536 := by rw [IntKind.wrap_u32]; omega
    obtain ⟨B3, h3, e3⟩ := byte_data (s := s) (i := b + 3) (by omega)
    have v3 := B3.toNat_lt
    have u3 : IntKind.u32.wrap (B3.toNat : Int) = B3.toNat := by rw [IntKind.wrap_u32]; omega
    have w3 : IntKind.i64.wrap ((b : Int) + 3) = (b : Int) + 3 := wrap64 (by omega) (by omega)
    have p3 : (0 : Int) ≤ (b : Int) + 3 := by omega
    have t3 : ((b : Int) + 3).toNat = b + 3 := by omega
    have s3 : IntKind.u32.wrap ((B3.toNat : Int) * 16777216) = B3.toNat * 16777216 := by rw [IntKind.wrap_u32]; omega
    have o : orW (orW (orW (B0.toNat : Int) (B1.toNat * 256)) (B2.toNat * 65536)) (B3.toNat * 16777216) = wordAt s b := by
      rw [orW_word B0 B1 B2 B3]
      unfold wordAt
      rw [← e0, ← e1, ← e2, ← e3]
    clear e0 e1 e2 e3 v0 v1 v2 v3 hb ha hs
    repeat' (first | ((with_reducible first | apply Wo_u | apply Wo_n | apply ex2 | apply W_sc | apply W_c | apply Wd_u | apply Wd_n | apply ex4 | apply EndQ_ret | apply EndQ_normal); (conv => lhs; simp -implicitDefEqProofs [*]) <;> exact rfl) | (with_reducible first | apply Wo_nil | apply W_ss | apply W_srl | apply W_rl | apply W_sblock | apply W_block | apply W_sskip | apply W_skip | apply W_sret | apply W_ret | apply W_sexit | apply W_exit | apply thenW_n | apply thenW_r | apply thenW_e | apply inB_n | apply inB_r | apply inB_e) | ((with_reducible apply Wo_gt); (exact rfl); ((conv => lhs; simp -implicitDefEqProofs [*]) <;> exact rfl); (conv => lhs; simp -implicitDefEqProofs [*]) <;> exact rfl) | ((with_reducible apply Wo_gf); (exact rfl); ((conv => lhs; simp -implicitDefEqProofs [*]) <;> exact rfl); (exact rfl)) | ((with_reducible apply Wo_gx); (exact rfl); ((conv => lhs; simp -implicitDefEqProofs [*]) <;> exact rfl)) | ((with_reducible apply Wo_gsT); (exact rfl); ((conv => lhs; simp -implicitDefEqProofs [*]) <;> exact rfl)) | ((with_reducible apply Wo_gsF); (exact rfl); ((conv => lhs; simp -implicitDefEqProofs [*]) <;> exact rfl)) | ((with_reducible apply Wd_gsT); (exact rfl); ((conv => lhs; simp -implicitDefEqProofs [*]) <;> exact rfl)) | ((with_reducible apply Wd_gsF); (exact rfl); ((conv => lhs; simp -implicitDefEqProofs [*]) <;> exact rfl)) | ((with_reducible first | apply W_srdl | apply W_rdl); kernel_rfl) | ((with_reducible apply Wd_nil); exact rfl) | ((with_reducible apply inB_o); rotate_left; exact rfl) | (intro h h'; try simp [*, -h] at h'))
    all_goals exact ⟨_, by omega, 1, rfl, by omega, by simp [*], by simp [*, w4], by simp [*], by simp [*], by simp [*], by simp [*], by simp [*]⟩
  · simp only [w4] at hh5
    obtain ⟨b, hb⟩ : ∃ b : Nat, b = at_ + 4 := ⟨_, rfl⟩
    have wb : IntKind.i64.wrap ((at_ : Int) + 4) = b := by rw [wrap64 (by omega) (by omega)]; try omega
    have wz : at_ + 4 = b := by omega
    obtain ⟨B0, h0, e0⟩ := byte_data (s := s) (i := b) (by omega)
    have v0 := B0.toNat_lt
    have u0 : IntKind.u32.wrap (B0.toNat : Int) = B0.toNat := by rw [IntKind.wrap_u32]; omega
    obtain ⟨B1, h1, e1⟩ := byte_data (s := s) (i := b + 1) (by omega)
    have v1 := B1.toNat_lt
    have u1 : IntKind.u32.wrap (B1.toNat : Int) = B1.toNat := by rw [IntKind.wrap_u32]; omega
    have w1 : IntKind.i64.wrap ((b : Int) + 1) = (b : Int) + 1 := wrap64 (by omega) (by omega)
    have p1 : (0 : Int) ≤ (b : Int) + 1 := by omega
    have t1 : ((b : Int) + 1).toNat = b + 1 := by omega
    have s1 : IntKind.u32.wrap ((B1.toNat : Int) * 256) = B1.toNat * 256 := by rw [IntKind.wrap_u32]; omega
    obtain ⟨B2, h2, e2⟩ := byte_data (s := s) (i := b + 2) (by omega)
    have v2 := B2.toNat_lt
    have u2 : IntKind.u32.wrap (B2.toNat : Int) = B2.toNat := by rw [IntKind.wrap_u32]; omega
    have w2 : IntKind.i64.wrap ((b : Int) + 2) = (b : Int) + 2 := wrap64 (by omega) (by omega)
    have p2 : (0 : Int) ≤ (b : Int) + 2 := by omega
    have t2 : ((b : Int) + 2).toNat = b + 2 := by omega
    have s2 : IntKind.u32.wrap ((B2.toNat : Int) * 65536) = B2.toNat * 65536 := by rw [IntKind.wrap_u32]; omega
    obtain ⟨B3, h3, e3⟩ := byte_data (s := s) (i := b + 3) (by omega)
    have v3 := B3.toNat_lt
    have u3 : IntKind.u32.wrap (B3.toNat : Int) = B3.toNat := by rw [IntKind.wrap_u32]; omega
    have w3 : IntKind.i64.wrap ((b : Int) + 3) = (b : Int) + 3 := wrap64 (by omega) (by omega)
    have p3 : (0 : Int) ≤ (b : Int) + 3 := by omega
    have t3 : ((b : Int) + 3).toNat = b + 3 := by omega
    have s3 : IntKind.u32.wrap ((B3.toNat : Int) * 16777216) = B3.toNat * 16777216 := by rw [IntKind.wrap_u32]; omega
    have o : orW (orW (orW (B0.toNat : Int) (B1.toNat * 256)) (B2.toNat * 65536)) (B3.toNat * 16777216) = wordAt s b := by
      rw [orW_word B0 B1 B2 B3]
      unfold wordAt
      rw [← e0, ← e1, ← e2, ← e3]
    clear e0 e1 e2 e3 v0 v1 v2 v3 hb ha hs
    repeat' (first | ((with_reducible first | apply Wo_u | apply Wo_n | apply ex2 | apply W_sc | apply W_c | apply Wd_u | apply Wd_n | apply ex4 | apply EndQ_ret | apply EndQ_normal); (conv => lhs; simp -implicitDefEqProofs [*]) <;> exact rfl) | (with_reducible first | apply Wo_nil | apply W_ss | apply W_srl | apply W_rl | apply W_sblock | apply W_block | apply W_sskip | apply W_skip | apply W_sret | apply W_ret | apply W_sexit | apply W_exit | apply thenW_n | apply thenW_r | apply thenW_e | apply inB_n | apply inB_r | apply inB_e) | ((with_reducible apply Wo_gt); (exact rfl); ((conv => lhs; simp -implicitDefEqProofs [*]) <;> exact rfl); (conv => lhs; simp -implicitDefEqProofs [*]) <;> exact rfl) | ((with_reducible apply Wo_gf); (exact rfl); ((conv => lhs; simp -implicitDefEqProofs [*]) <;> exact rfl); (exact rfl)) | ((with_reducible apply Wo_gx); (exact rfl); ((conv => lhs; simp -implicitDefEqProofs [*]) <;> exact rfl)) | ((with_reducible apply Wo_gsT); (exact rfl); ((conv => lhs; simp -implicitDefEqProofs [*]) <;> exact rfl)) | ((with_reducible apply Wo_gsF); (exact rfl); ((conv => lhs; simp -implicitDefEqProofs [*]) <;> exact rfl)) | ((with_reducible apply Wd_gsT); (exact rfl); ((conv => lhs; simp -implicitDefEqProofs [*]) <;> exact rfl)) | ((with_reducible apply Wd_gsF); (exact rfl); ((conv => lhs; simp -implicitDefEqProofs [*]) <;> exact rfl)) | ((with_reducible first | apply W_srdl | apply W_rdl); kernel_rfl) | ((with_reducible apply Wd_nil); exact rfl) | ((with_reducible apply inB_o); rotate_left; exact rfl) | (intro h h'; try simp [*, -h] at h'))
    all_goals exact ⟨_, by omega, 2, rfl, by omega, by simp [*], by simp [*, w4], by simp [*], by simp [*], by simp [*], by simp [*], by simp [*]⟩
  · simp only [w4] at hh5
    obtain ⟨b, hb⟩ : ∃ b : Nat, b = at_ + 8 := ⟨_, rfl⟩
    have wb : IntKind.i64.wrap ((at_ : Int) + 8) = b := by rw [wrap64 (by omega) (by omega)]; try omega
    have wz : at_ + 8 = b := by omega
    obtain ⟨B0, h0, e0⟩ := byte_data (s := s) (i := b) (by omega)
    have v0 := B0.toNat_lt
    have u0 : IntKind.u32.wrap (B0.toNat : Int) = B0.toNat := by rw [IntKind.wrap_u32]; omega
    obtain ⟨B1, h1, e1⟩ := byte_data (s := s) (i := b + 1) (by omega)
    have v1 := B1.toNat_lt
    have u1 : IntKind.u32.wrap (B1.toNat : Int) = B1.toNat := by rw [IntKind.wrap_u32]; omega
    have w1 : IntKind.i64.wrap ((b : Int) + 1) = (b : Int) + 1 := wrap64 (by omega) (by omega)
    have p1 : (0 : Int) ≤ (b : Int) + 1 := by omega
    have t1 : ((b : Int) + 1).toNat = b + 1 := by omega
    have s1 : IntKind.u32.wrap ((B1.toNat : Int) * 256) = B1.toNat * 256 := by rw [IntKind.wrap_u32]; omega
    obtain ⟨B2, h2, e2⟩ := byte_data (s := s) (i := b + 2) (by omega)
    have v2 := B2.toNat_lt
    have u2 : IntKind.u32.wrap (B2.toNat : Int) = B2.toNat := by rw [IntKind.wrap_u32]; omega
    have w2 : IntKind.i64.wrap ((b : Int) + 2) = (b : Int) + 2 := wrap64 (by omega) (by omega)
    have p2 : (0 : Int) ≤ (b : Int) + 2 := by omega
    have t2 : ((b : Int) + 2).toNat = b + 2 := by omega
    have s2 : IntKind.u32.wrap ((B2.toNat : Int) * 65536) = B2.toNat * 65536 := by rw [IntKind.wrap_u32]; omega
    obtain ⟨B3, h3, e3⟩ := byte_data (s := s) (i := b + 3) (by omega)
    have v3 := B3.toNat_lt
    have u3 : IntKind.u32.wrap (B3.toNat : Int) = B3.toNat := by rw [IntKind.wrap_u32]; omega
    have w3 : IntKind.i64.wrap ((b : Int) + 3) = (b : Int) + 3 := wrap64 (by omega) (by omega)
    have p3 : (0 : Int) ≤ (b : Int) + 3 := by omega
    have t3 : ((b : Int) + 3).toNat = b + 3 := by omega
    have s3 : IntKind.u32.wrap ((B3.toNat : Int) * 16777216) = B3.toNat * 16777216 := by rw [IntKind.wrap_u32]; omega
    have o : orW (orW (orW (B0.toNat : Int) (B1.toNat * 256)) (B2.toNat * 65536)) (B3.toNat * 16777216) = wordAt s b := by
      rw [orW_word B0 B1 B2 B3]
      unfold wordAt
      rw [← e0, ← e1, ← e2, ← e3]
    clear e0 e1 e2 e3 v0 v1 v2 v3 hb ha hs
    repeat' (first | ((with_reducible first | apply Wo_u | apply Wo_n | apply ex2 | apply W_sc | apply W_c | apply Wd_u | apply Wd_n | apply ex4 | apply EndQ_ret | apply EndQ_normal); (conv => lhs; simp -implicitDefEqProofs [*]) <;> exact rfl) | (with_reducible first | apply Wo_nil | apply W_ss | apply W_srl | apply W_rl | apply W_sblock | apply W_block | apply W_sskip | apply W_skip | apply W_sret | apply W_ret | apply W_sexit | apply W_exit | apply thenW_n | apply thenW_r | apply thenW_e | apply inB_n | apply inB_r | apply inB_e) | ((with_reducible apply Wo_gt); (exact rfl); ((conv => lhs; simp -implicitDefEqProofs [*]) <;> exact rfl); (conv => lhs; simp -implicitDefEqProofs [*]) <;> exact rfl) | ((with_reducible apply Wo_gf); (exact rfl); ((conv => lhs; simp -implicitDefEqProofs [*]) <;> exact rfl); (exact rfl)) | ((with_reducible apply Wo_gx); (exact rfl); ((conv => lhs; simp -implicitDefEqProofs [*]) <;> exact rfl)) | ((with_reducible apply Wo_gsT); (exact rfl); ((conv => lhs; simp -implicitDefEqProofs [*]) <;> exact rfl)) | ((with_reducible apply Wo_gsF); (exact rfl); ((conv => lhs; simp -implicitDefEqProofs [*]) <;> exact rfl)) | ((with_reducible apply Wd_gsT); (exact rfl); ((conv => lhs; simp -implicitDefEqProofs [*]) <;> exact rfl)) | ((with_reducible apply Wd_gsF); (exact rfl); ((conv => lhs; simp -implicitDefEqProofs [*]) <;> exact rfl)) | ((with_reducible first | apply W_srdl | apply W_rdl); kernel_rfl) | ((with_reducible apply Wd_nil); exact rfl) | ((with_reducible apply inB_o); rotate_left; exact rfl) | (intro h h'; try simp [*, -h] at h'))
    all_goals exact ⟨_, by omega, 3, rfl, by omega, by simp [*], by simp [*, w4], by simp [*], by simp [*], by simp [*], by simp [*], by simp [*]⟩
  · simp only [w4] at hh5
    obtain ⟨b, hb⟩ : ∃ b : Nat, b = at_ + 12 := ⟨_, rfl⟩
    have wb : IntKind.i64.wrap ((at_ : Int) + 12) = b := by rw [wrap64 (by omega) (by omega)]; try omega
    have wz : at_ + 12 = b := by omega
    obtain ⟨B0, h0, e0⟩ := byte_data (s := s) (i := b) (by omega)
    have v0 := B0.toNat_lt
    have u0 : IntKind.u32.wrap (B0.toNat : Int) = B0.toNat := by rw [IntKind.wrap_u32]; omega
    obtain ⟨B1, h1, e1⟩ := byte_data (s := s) (i := b + 1) (by omega)
    have v1 := B1.toNat_lt
    have u1 : IntKind.u32.wrap (B1.toNat : Int) = B1.toNat := by rw [IntKind.wrap_u32]; omega
    have w1 : IntKind.i64.wrap ((b : Int) + 1) = (b : Int) + 1 := wrap64 (by omega) (by omega)
    have p1 : (0 : Int) ≤ (b : Int) + 1 := by omega
    have t1 : ((b : Int) + 1).toNat = b + 1 := by omega
    have s1 : IntKind.u32.wrap ((B1.toNat : Int) * 256) = B1.toNat * 256 := by rw [IntKind.wrap_u32]; omega
    obtain ⟨B2, h2, e2⟩ := byte_data (s := s) (i := b + 2) (by omega)
    have v2 := B2.toNat_lt
    have u2 : IntKind.u32.wrap (B2.toNat : Int) = B2.toNat := by rw [IntKind.wrap_u32]; omega
    have w2 : IntKind.i64.wrap ((b : Int) + 2) = (b : Int) + 2 := wrap64 (by omega) (by omega)
    have p2 : (0 : Int) ≤ (b : Int) + 2 := by omega
    have t2 : ((b : Int) + 2).toNat = b + 2 := by omega
    have s2 : IntKind.u32.wrap ((B2.toNat : Int) * 65536) = B2.toNat * 65536 := by rw [IntKind.wrap_u32]; omega
    obtain ⟨B3, h3, e3⟩ := byte_data (s := s) (i := b + 3) (by omega)
    have v3 := B3.toNat_lt
    have u3 : IntKind.u32.wrap (B3.toNat : Int) = B3.toNat := by rw [IntKind.wrap_u32]; omega
    have w3 : IntKind.i64.wrap ((b : Int) + 3) = (b : Int) + 3 := wrap64 (by omega) (by omega)
    have p3 : (0 : Int) ≤ (b : Int) + 3 := by omega
    have t3 : ((b : Int) + 3).toNat = b + 3 := by omega
    have s3 : IntKind.u32.wrap ((B3.toNat : Int) * 16777216) = B3.toNat * 16777216 := by rw [IntKind.wrap_u32]; omega
    have o : orW (orW (orW (B0.toNat : Int) (B1.toNat * 256)) (B2.toNat * 65536)) (B3.toNat * 16777216) = wordAt s b := by
      rw [orW_word B0 B1 B2 B3]
      unfold wordAt
      rw [← e0, ← e1, ← e2, ← e3]
    clear e0 e1 e2 e3 v0 v1 v2 v3 hb ha hs
    repeat' (first | ((with_reducible first | apply Wo_u | apply Wo_n | apply ex2 | apply W_sc | apply W_c | apply Wd_u | apply Wd_n | apply ex4 | apply EndQ_ret | apply EndQ_normal); (conv => lhs; simp -implicitDefEqProofs [*]) <;> exact rfl) | (with_reducible first | apply Wo_nil | apply W_ss | apply W_srl | apply W_rl | apply W_sblock | apply W_block | apply W_sskip | apply W_skip | apply W_sret | apply W_ret | apply W_sexit | apply W_exit | apply thenW_n | apply thenW_r | apply thenW_e | apply inB_n | apply inB_r | apply inB_e) | ((with_reducible apply Wo_gt); (exact rfl); ((conv => lhs; simp -implicitDefEqProofs [*]) <;> exact rfl); (conv => lhs; simp -implicitDefEqProofs [*]) <;> exact rfl) | ((with_reducible apply Wo_gf); (exact rfl); ((conv => lhs; simp -implicitDefEqProofs [*]) <;> exact rfl); (exact rfl)) | ((with_reducible apply Wo_gx); (exact rfl); ((conv => lhs; simp -implicitDefEqProofs [*]) <;> exact rfl)) | ((with_reducible apply Wo_gsT); (exact rfl); ((conv => lhs; simp -implicitDefEqProofs [*]) <;> exact rfl)) | ((with_reducible apply Wo_gsF); (exact rfl); ((conv => lhs; simp -implicitDefEqProofs [*]) <;> exact rfl)) | ((with_reducible apply Wd_gsT); (exact rfl); ((conv => lhs; simp -implicitDefEqProofs [*]) <;> exact rfl)) | ((with_reducible apply Wd_gsF); (exact rfl); ((conv => lhs; simp -implicitDefEqProofs [*]) <;> exact rfl)) | ((with_reducible first | apply W_srdl | apply W_rdl); kernel_rfl) | ((with_reducible apply Wd_nil); exact rfl) | ((with_reducible apply inB_o); rotate_left; exact rfl) | (intro h h'; try simp [*, -h] at h'))
    all_goals exact ⟨_, by omega, 4, rfl, by omega, by simp [*], by simp [*, w4], by simp [*], by simp [*], by simp [*], by simp [*], by simp [*]⟩
  · simp only [w4] at hh5
    unfold four
    simp only [D4.row]
    exact step7
end Go.Proofs.YtaeeffddinppeaaGreatDoor
