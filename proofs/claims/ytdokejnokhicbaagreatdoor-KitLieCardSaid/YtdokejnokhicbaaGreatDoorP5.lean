/- Law 47: one-time keys, walked. -/
import Derived.Test.YtdokejnokhicbaaGreatDoorP4
namespace Go.Proofs.YtdokejnokhicbaaGreatDoor
open Go Go.Ab
set_option linter.unusedSimpArgs false
set_option linter.unusedVariables false
attribute [-simp] Prog.bind getCs putCs
attribute [local simp ↓] run_bind
attribute [local simp ↓] runF_bind
attribute [local simp] run_getCsN runF_getCsN facetsC putCs_one run_putCsN runF_putCsN facetsW facetsH
attribute [local simp ↓] evInt_xor evInt_or evInt_and64
/-- A chain, so many steps along. -/
def walkP (d : D4) : Nat → D4
  | 0 => d
  | n + 1 => pairP (walkP d n) ⟨0, 0, 0, 1⟩
theorem walkP_add (d : D4) (a : Nat) : ∀ b, walkP (walkP d a) b = walkP d (a + b)
  | 0 => rfl
  | b + 1 => by
    show pairP (walkP (walkP d a) b) _ = pairP (walkP d (a + b)) _
    rw [walkP_add d a b]
def beginP (s : D4) (i : Int) : D4 := pairP s ⟨i, 0, 0, 0⟩
def linkP (a b : D4) : D4 := pairP (ofP (txtW [a.d0, a.d1, a.d2, a.d3] ++ txtW [b.d0, b.d1, b.d2, b.d3])) (ofP ⟨#[108, 105, 110, 107]⟩)
def D4.U (d : D4) : Prop := Proofs.YtdokejnokhicbaaGreatDoor.U d.d0 ∧ Proofs.YtdokejnokhicbaaGreatDoor.U d.d1 ∧ Proofs.YtdokejnokhicbaaGreatDoor.U d.d2 ∧ Proofs.YtdokejnokhicbaaGreatDoor.U d.d3
set_option maxHeartbeats 4000000 in
theorem e64 (s : D4) (i : Nat) (hi : i < 4294967296) : (lim Tryz.prog E47 X47).dat 75 [.agg s.row, iv i] = some [.agg (beginP s i).row] := by
  refine fnW Tryz.func75 rfl rfl bodyOk_75 rfl rtys_75 rfl ?_
  have hw : IntKind.u32.wrap (i : Int) = i := by rw [IntKind.wrap_u32]; omega
  have h33 := e33 s ⟨i, 0, 0, 0⟩
  unfold beginP
  generalize pairP s ⟨i, 0, 0, 0⟩ = y at *
  obtain ⟨s0, s1, s2, s3⟩ := s
  obtain ⟨y0, y1, y2, y3⟩ := y
  simp only [D4.row] at h33 ⊢
  repeat' (first
    | ((with_reducible first | apply Wo_u | apply Wo_n | apply ex2 | apply W_sc | apply W_c | apply Wd_u | apply Wd_n | apply ex4 | apply EndQ_ret | apply EndQ_normal); (conv => lhs; simp -implicitDefEqProofs [*]) <;> exact rfl)
    | (with_reducible first | apply Wo_nil | apply W_ss | apply W_srl | apply W_rl | apply W_sblock | apply W_block | apply W_sskip | apply W_skip | apply W_sret | apply W_ret | apply W_sexit | apply W_exit | apply thenW_n | apply thenW_r | apply thenW_e | apply inB_n | apply inB_r | apply inB_e)
    | ((with_reducible apply Wo_gt); (exact rfl); ((conv => lhs; simp -implicitDefEqProofs [*]) <;> exact rfl); (conv => lhs; simp -implicitDefEqProofs [*]) <;> exact rfl)
    | ((with_reducible apply Wo_gf); (exact rfl); ((conv => lhs; simp -implicitDefEqProofs [*]) <;> exact rfl); (exact rfl))
    | ((with_reducible apply Wo_gx); (exact rfl); ((conv => lhs; simp -implicitDefEqProofs [*]) <;> exact rfl))
    | ((with_reducible apply Wo_gsT); (exact rfl); ((conv => lhs; simp -implicitDefEqProofs [*]) <;> exact rfl))
    | ((with_reducible apply Wo_gsF); (exact rfl); ((conv => lhs; simp -implicitDefEqProofs [*]) <;> exact rfl))
    | ((with_reducible apply Wd_gsT); (exact rfl); ((conv => lhs; simp -implicitDefEqProofs [*]) <;> exact rfl))
    | ((with_reducible apply Wd_gsF); (exact rfl); ((conv => lhs; simp -implicitDefEqProofs [*]) <;> exact rfl))
    | ((with_reducible first | apply W_srdl | apply W_rdl); kernel_rfl)
    | ((with_reducible apply Wd_nil); exact rfl)
    | ((with_reducible apply inB_o); rotate_left; exact rfl)
    | (intro h h'; try simp [*, -h] at h'))
  all_goals rfl
theorem e30 (h : Int) : (lim Tryz.prog E47 X47).dat 26 [iv h] = some [bv (decide (0 ≤ h) && decide (h ≤ 4))] := by
  refine fnW Tryz.func26 rfl rfl bodyOk_26 rfl rtys_26 rfl ?_
  by_cases h1 : 0 ≤ h
  all_goals by_cases h2 : h ≤ 4
  all_goals
    repeat' (first
      | ((with_reducible first | apply Wo_u | apply Wo_n | apply ex2 | apply W_sc | apply W_c | apply Wd_u | apply Wd_n | apply ex4 | apply EndQ_ret | apply EndQ_normal); (conv => lhs; simp -implicitDefEqProofs [*]) <;> exact rfl)
      | (with_reducible first | apply Wo_nil | apply W_ss | apply W_srl | apply W_rl | apply W_sblock | apply W_block | apply W_sskip | apply W_skip | apply W_sret | apply W_ret | apply W_sexit | apply W_exit | apply thenW_n | apply thenW_r | apply thenW_e | apply inB_n | apply inB_r | apply inB_e)
      | ((with_reducible apply Wo_gt); (exact rfl); ((conv => lhs; simp -implicitDefEqProofs [*]) <;> exact rfl); (conv => lhs; simp -implicitDefEqProofs [*]) <;> exact rfl)
      | ((with_reducible apply Wo_gf); (exact rfl); ((conv => lhs; simp -implicitDefEqProofs [*]) <;> exact rfl); (exact rfl))
      | ((with_reducible apply Wo_gx); (exact rfl); ((conv => lhs; simp -implicitDefEqProofs [*]) <;> exact rfl))
      | ((with_reducible apply Wo_gsT); (exact rfl); ((conv => lhs; simp -implicitDefEqProofs [*]) <;> exact rfl))
      | ((with_reducible apply Wo_gsF); (exact rfl); ((conv => lhs; simp -implicitDefEqProofs [*]) <;> exact rfl))
      | ((with_reducible apply Wd_gsT); (exact rfl); ((conv => lhs; simp -implicitDefEqProofs [*]) <;> exact rfl))
      | ((with_reducible apply Wd_gsF); (exact rfl); ((conv => lhs; simp -implicitDefEqProofs [*]) <;> exact rfl))
      | ((with_reducible first | apply W_srdl | apply W_rdl); kernel_rfl)
      | ((with_reducible apply Wd_nil); exact rfl)
      | ((with_reducible apply inB_o); rotate_left; exact rfl)
      | (intro h h'; try simp [*, -h] at h'))
  all_goals simp [*]
set_option maxHeartbeats 1000000 in
theorem d26u (l : List Int) (hl : l.length ≤ 1048576) : (lim Tryz.prog E47 X47).dat 28 [.sl false 1 (rowW l)] = some [.sc (.string (txtW l))] := by
  refine fnW Tryz.func28 rfl rfl bodyOk_28 rfl rtys_28 rfl ?_
  have hm : IntKind.i64.wrap (4 * (l.length : Int)) = 4 * (l.length : Int) := wrap64 (by omega) (by omega)
  have m0 : (0 : Int) ≤ 4 * (l.length : Int) := by omega
  have m1 : 4 * (l.length : Int) ≤ 9223372036854775807 := by omega
  have m2 : 4 * (l.length : Int) ≤ 140737488355328 := by omega
  repeat' (first
    | ((with_reducible first | apply Wo_u | apply Wo_n | apply ex2 | apply W_sc | apply W_c | apply Wd_u | apply Wd_n | apply ex4 | apply EndQ_ret | apply EndQ_normal); (conv => lhs; simp -implicitDefEqProofs [*]) <;> exact rfl)
    | (with_reducible first | apply Wo_nil | apply W_ss | apply W_srl | apply W_rl | apply W_sblock | apply W_block | apply W_sskip | apply W_skip | apply W_sret | apply W_ret | apply W_sexit | apply W_exit | apply thenW_n | apply thenW_r | apply thenW_e | apply inB_n | apply inB_r | apply inB_e)
    | ((with_reducible apply Wo_gt); (exact rfl); ((conv => lhs; simp -implicitDefEqProofs [*]) <;> exact rfl); (conv => lhs; simp -implicitDefEqProofs [*]) <;> exact rfl)
    | ((with_reducible apply Wo_gf); (exact rfl); ((conv => lhs; simp -implicitDefEqProofs [*]) <;> exact rfl); (exact rfl))
    | ((with_reducible apply Wo_gx); (exact rfl); ((conv => lhs; simp -implicitDefEqProofs [*]) <;> exact rfl))
    | ((with_reducible apply Wo_gsT); (exact rfl); ((conv => lhs; simp -implicitDefEqProofs [*]) <;> exact rfl))
    | ((with_reducible apply Wo_gsF); (exact rfl); ((conv => lhs; simp -implicitDefEqProofs [*]) <;> exact rfl))
    | ((with_reducible apply Wd_gsT); (exact rfl); ((conv => lhs; simp -implicitDefEqProofs [*]) <;> exact rfl))
    | ((with_reducible apply Wd_gsF); (exact rfl); ((conv => lhs; simp -implicitDefEqProofs [*]) <;> exact rfl))
    | ((with_reducible first | apply W_srdl | apply W_rdl); kernel_rfl)
    | ((with_reducible apply Wd_nil); exact rfl)
    | ((with_reducible apply inB_o); rotate_left; exact rfl)
    | (intro h h'; try simp [*, -h] at h'))
  refine W_loopS (n := l.length) (fun s0 m s => ∃ k g : Nat, m = l.length - k ∧ k ≤ l.length ∧ s.fr 12 = iv k ∧ s.fr 3 = .own ⟨0, 9, 0⟩ g (4 * k) ∧ s.fr 10 = s0.fr 10 ∧ s.fr 11 = s0.fr 11 ∧ s.hp ⟨0, 9, 0⟩ = .arr g 1 5 (rowB (bys (l.take k))) false) ⟨0, 1, by simp, by omega, by simp, by simp, by simp, by simp, by simp [bys]⟩ ?_
  rintro m ⟨fr, hp⟩ ⟨k, g, rfl, hk, hs12, hs3, hs10, hs11, hh9⟩
  simp at hs12 hs3 hs10 hs11 hh9
  by_cases hlt : k < l.length
  · have hg := List.getElem?_eq_getElem hlt
    have hw := wrapN (k := k) (by omega)
    have e0 : IntKind.u8.wrap l[k] = l[k] % 256 := IntKind.wrap_u8 _
    have e1 : IntKind.u8.wrap (l[k] / 256) = l[k] / 256 % 256 := IntKind.wrap_u8 _
    have e2 : IntKind.u8.wrap (l[k] / 65536) = l[k] / 65536 % 256 := IntKind.wrap_u8 _
    have e3 : IntKind.u8.wrap (l[k] / 16777216) = l[k] / 16777216 % 256 := IntKind.wrap_u8 _
    have hbl : (bys (l.take k)).length = 4 * k := by rw [bys_len, List.length_take]; omega
    have hap : rowB (bys (l.take k)) ++ [[.sc (.int .u8 (l[k] % 256))], [.sc (.int .u8 (l[k] / 256 % 256))], [.sc (.int .u8 (l[k] / 65536 % 256))], [.sc (.int .u8 (l[k] / 16777216 % 256))]] = rowB (bys (l.take (k + 1))) := by
      rw [← bys_snoc hg]; simp [b4]
    have b1 : 4 * k ≤ 140737488355324 := by omega
    have b2 : 4 * k ≤ 9223372036854775803 := by omega
    repeat' (first
      | ((with_reducible first | apply Wo_u | apply Wo_n | apply ex2 | apply W_sc | apply W_c | apply Wd_u | apply Wd_n | apply ex4 | apply EndQ_ret | apply EndQ_normal); (conv => lhs; simp -implicitDefEqProofs [*]) <;> exact rfl)
      | (with_reducible first | apply Wo_nil | apply W_ss | apply W_srl | apply W_rl | apply W_sblock | apply W_block | apply W_sskip | apply W_skip | apply W_sret | apply W_ret | apply W_sexit | apply W_exit | apply thenW_n | apply thenW_r | apply thenW_e | apply inB_n | apply inB_r | apply inB_e)
      | ((with_reducible apply Wo_gt); (exact rfl); ((conv => lhs; simp -implicitDefEqProofs [*]) <;> exact rfl); (conv => lhs; simp -implicitDefEqProofs [*]) <;> exact rfl)
      | ((with_reducible apply Wo_gf); (exact rfl); ((conv => lhs; simp -implicitDefEqProofs [*]) <;> exact rfl); (exact rfl))
      | ((with_reducible apply Wo_gx); (exact rfl); ((conv => lhs; simp -implicitDefEqProofs [*]) <;> exact rfl))
      | ((with_reducible apply Wo_gsT); (exact rfl); ((conv => lhs; simp -implicitDefEqProofs [*]) <;> exact rfl))
      | ((with_reducible apply Wo_gsF); (exact rfl); ((conv => lhs; simp -implicitDefEqProofs [*]) <;> exact rfl))
      | ((with_reducible apply Wd_gsT); (exact rfl); ((conv => lhs; simp -implicitDefEqProofs [*]) <;> exact rfl))
      | ((with_reducible apply Wd_gsF); (exact rfl); ((conv => lhs; simp -implicitDefEqProofs [*]) <;> exact rfl))
      | ((with_reducible first | apply W_srdl | apply W_rdl); kernel_rfl)
      | ((with_reducible apply Wd_nil); exact rfl)
      | ((with_reducible apply inB_o); rotate_left; exact rfl)
      | (intro h h'; try simp [*, -h] at h'))
    exact ⟨_, by omega, k + 1, g + 1, rfl, hlt, by simp, by simp [Nat.mul_add], by simp [*], by simp [*], by simp [*]⟩
  · obtain rfl : k = l.length := by omega
    have hta : l.take l.length = l := List.take_of_length_le (Nat.le_refl _)
    have hbl : (bys l).length = 4 * l.length := bys_len l
    have htk : (rowB (bys l)).take (4 * l.length) = rowB (bys l) := List.take_of_length_le (by simp [hbl])
    have hbr := bytes_rowB (bys l)
    rw [hta] at hh9
    repeat' (first
      | ((with_reducible first | apply Wo_u | apply Wo_n | apply ex2 | apply W_sc | apply W_c | apply Wd_u | apply Wd_n | apply ex4 | apply EndQ_ret | apply EndQ_normal); (conv => lhs; simp -implicitDefEqProofs [*]) <;> exact rfl)
      | (with_reducible first | apply Wo_nil | apply W_ss | apply W_srl | apply W_rl | apply W_sblock | apply W_block | apply W_sskip | apply W_skip | apply W_sret | apply W_ret | apply W_sexit | apply W_exit | apply thenW_n | apply thenW_r | apply thenW_e | apply inB_n | apply inB_r | apply inB_e)
      | ((with_reducible apply Wo_gt); (exact rfl); ((conv => lhs; simp -implicitDefEqProofs [*]) <;> exact rfl); (conv => lhs; simp -implicitDefEqProofs [*]) <;> exact rfl)
      | ((with_reducible apply Wo_gf); (exact rfl); ((conv => lhs; simp -implicitDefEqProofs [*]) <;> exact rfl); (exact rfl))
      | ((with_reducible apply Wo_gx); (exact rfl); ((conv => lhs; simp -implicitDefEqProofs [*]) <;> exact rfl))
      | ((with_reducible apply Wo_gsT); (exact rfl); ((conv => lhs; simp -implicitDefEqProofs [*]) <;> exact rfl))
      | ((with_reducible apply Wo_gsF); (exact rfl); ((conv => lhs; simp -implicitDefEqProofs [*]) <;> exact rfl))
      | ((with_reducible apply Wd_gsT); (exact rfl); ((conv => lhs; simp -implicitDefEqProofs [*]) <;> exact rfl))
      | ((with_reducible apply Wd_gsF); (exact rfl); ((conv => lhs; simp -implicitDefEqProofs [*]) <;> exact rfl))
      | ((with_reducible first | apply W_srdl | apply W_rdl); kernel_rfl)
      | ((with_reducible apply Wd_nil); exact rfl)
      | ((with_reducible apply inB_o); rotate_left; exact rfl)
      | (intro h h'; try simp [*, -h] at h'))
    rfl
set_option maxHeartbeats 8000000 in
theorem e19 (a b : D4) : (lim Tryz.prog E47 X47).dat 14 [.agg (a.row ++ b.row)] = some [.agg (linkP a b).row] := by
  refine fnW Tryz.func14 rfl rfl bodyOk_14 rfl rtys_14 rfl ?_
  have i1 := d26u [a.d0, a.d1, a.d2, a.d3] (by simp)
  have i2 := d26u [b.d0, b.d1, b.d2, b.d3] (by simp)
  have z1 : (txtW [a.d0, a.d1, a.d2, a.d3]).size = 16 := by rw [txtW_size]; rfl
  have z2 : (txtW [b.d0, b.d1, b.d2, b.d3]).size = 16 := by rw [txtW_size]; rfl
  have j1 := e34 (txtW [a.d0, a.d1, a.d2, a.d3] ++ txtW [b.d0, b.d1, b.d2, b.d3]) (by rw [ByteArray.size_append, z1, z2]; omega)
  have j2 := e34 ⟨#[108, 105, 110, 107]⟩ (by decide)
  unfold linkP
  have j3 := e33 (ofP (txtW [a.d0, a.d1, a.d2, a.d3] ++ txtW [b.d0, b.d1, b.d2, b.d3])) (ofP ⟨#[108, 105, 110, 107]⟩)
  obtain ⟨a0, a1, a2, a3⟩ := a
  obtain ⟨b0, b1, b2, b3⟩ := b
  simp only at *
  generalize txtW [a0, a1, a2, a3] = A at *
  generalize txtW [b0, b1, b2, b3] = B at *
  generalize hT : A ++ B = T at *
  generalize ofP ⟨#[108, 105, 110, 107]⟩ = q at *
  generalize ofP T = r at *
  generalize pairP r q = y at *
  obtain ⟨q0, q1, q2, q3⟩ := q
  obtain ⟨r0, r1, r2, r3⟩ := r
  obtain ⟨y0, y1, y2, y3⟩ := y
  simp only [D4.row, rowW, List.map_cons, List.map_nil] at *
  repeat' (first
    | ((with_reducible first | apply Wo_u | apply Wo_n | apply ex2 | apply W_sc | apply W_c | apply Wd_u | apply Wd_n | apply ex4 | apply EndQ_ret | apply EndQ_normal); (conv => lhs; simp -implicitDefEqProofs [*]) <;> exact rfl)
    | (with_reducible first | apply Wo_nil | apply W_ss | apply W_srl | apply W_rl | apply W_sblock | apply W_block | apply W_sskip | apply W_skip | apply W_sret | apply W_ret | apply W_sexit | apply W_exit | apply thenW_n | apply thenW_r | apply thenW_e | apply inB_n | apply inB_r | apply inB_e)
    | ((with_reducible apply Wo_gt); (exact rfl); ((conv => lhs; simp -implicitDefEqProofs [*]) <;> exact rfl); (conv => lhs; simp -implicitDefEqProofs [*]) <;> exact rfl)
    | ((with_reducible apply Wo_gf); (exact rfl); ((conv => lhs; simp -implicitDefEqProofs [*]) <;> exact rfl); (exact rfl))
    | ((with_reducible apply Wo_gx); (exact rfl); ((conv => lhs; simp -implicitDefEqProofs [*]) <;> exact rfl))
    | ((with_reducible apply Wo_gsT); (exact rfl); ((conv => lhs; simp -implicitDefEqProofs [*]) <;> exact rfl))
    | ((with_reducible apply Wo_gsF); (exact rfl); ((conv => lhs; simp -implicitDefEqProofs [*]) <;> exact rfl))
    | ((with_reducible apply Wd_gsT); (exact rfl); ((conv => lhs; simp -implicitDefEqProofs [*]) <;> exact rfl))
    | ((with_reducible apply Wd_gsF); (exact rfl); ((conv => lhs; simp -implicitDefEqProofs [*]) <;> exact rfl))
    | ((with_reducible first | apply W_srdl | apply W_rdl); kernel_rfl)
    | ((with_reducible apply Wd_nil); exact rfl)
    | ((with_reducible apply inB_o); rotate_left; exact rfl)
    | (intro h h'; try simp [*, -h] at h'))
  all_goals rfl
end Go.Proofs.YtdokejnokhicbaaGreatDoor

namespace Go.Proofs.YtdokejnokhicbaaGreatDoor
open Go Go.Ab
set_option linter.unusedSimpArgs false
set_option linter.unusedVariables false
attribute [-simp] Prog.bind getCs putCs
attribute [local simp ↓] run_bind
attribute [local simp ↓] runF_bind
attribute [local simp] run_getCsN runF_getCsN facetsC putCs_one run_putCsN runF_putCsN facetsW facetsH
attribute [local simp ↓] evInt_xor evInt_or evInt_and64
def togetherP (en : Nat → D4) : Nat → D4
  | 0 => ⟨35, 0, 0, 0⟩
  | n + 1 => pairP (togetherP en n) (en n)
def publicP (s : D4) : D4 := togetherP (fun i => walkP (beginP s i) 15) 35
set_option maxHeartbeats 4000000 in
theorem e62 : (lim Tryz.prog E47 X47).dat 64 [] = some [.fn 85 [.dp [uv 0, uv 0, uv 0, uv 1] 0]] := by
  refine fnW Tryz.func64 rfl rfl bodyOk_64 rfl rtys_64 rfl ?_
  repeat' (first
    | ((with_reducible first | apply Wo_u | apply Wo_n | apply ex2 | apply W_sc | apply W_c | apply Wd_u | apply Wd_n | apply ex4 | apply EndQ_ret | apply EndQ_normal); (conv => lhs; simp -implicitDefEqProofs [*]) <;> exact rfl)
    | (with_reducible first | apply Wo_nil | apply W_ss | apply W_srl | apply W_rl | apply W_sblock | apply W_block | apply W_sskip | apply W_skip | apply W_sret | apply W_ret | apply W_sexit | apply W_exit | apply thenW_n | apply thenW_r | apply thenW_e | apply inB_n | apply inB_r | apply inB_e)
    | ((with_reducible apply Wo_gt); (exact rfl); ((conv => lhs; simp -implicitDefEqProofs [*]) <;> exact rfl); (conv => lhs; simp -implicitDefEqProofs [*]) <;> exact rfl)
    | ((with_reducible apply Wo_gf); (exact rfl); ((conv => lhs; simp -implicitDefEqProofs [*]) <;> exact rfl); (exact rfl))
    | ((with_reducible apply Wo_gx); (exact rfl); ((conv => lhs; simp -implicitDefEqProofs [*]) <;> exact rfl))
    | ((with_reducible apply Wo_gsT); (exact rfl); ((conv => lhs; simp -implicitDefEqProofs [*]) <;> exact rfl))
    | ((with_reducible apply Wo_gsF); (exact rfl); ((conv => lhs; simp -implicitDefEqProofs [*]) <;> exact rfl))
    | ((with_reducible apply Wd_gsT); (exact rfl); ((conv => lhs; simp -implicitDefEqProofs [*]) <;> exact rfl))
    | ((with_reducible apply Wd_gsF); (exact rfl); ((conv => lhs; simp -implicitDefEqProofs [*]) <;> exact rfl))
    | ((with_reducible first | apply W_srdl | apply W_rdl); kernel_rfl)
    | ((with_reducible apply Wd_nil); exact rfl)
    | ((with_reducible apply inB_o); rotate_left; exact rfl)
    | (intro h h'; try simp [*, -h] at h'))
  all_goals rfl
set_option maxHeartbeats 4000000 in
theorem e77 (x : D4) (n : Nat) (hn : n ≤ 1048576) : (lim Tryz.prog E47 X47).dat 85 [.agg [uv x.d0, uv x.d1, uv x.d2, uv x.d3], iv n, .dp [uv 0, uv 0, uv 0, uv 1] 0] = some [.agg [uv (walkP x n).d0, uv (walkP x n).d1, uv (walkP x n).d2, uv (walkP x n).d3]] := by
  refine fnW Tryz.func85 rfl rfl bodyOk_85 rfl rtys_85 rfl ?_
  have h33 : ∀ k, (lim Tryz.prog E47 X47).dat 29 [.agg [uv (walkP x k).d0, uv (walkP x k).d1, uv (walkP x k).d2, uv (walkP x k).d3], .agg [uv 0, uv 0, uv 0, uv 1]] = some [.agg [uv (walkP x (k + 1)).d0, uv (walkP x (k + 1)).d1, uv (walkP x (k + 1)).d2, uv (walkP x (k + 1)).d3]] := fun k => e33 (walkP x k) ⟨0, 0, 0, 1⟩
  replace h33 := Lib.hid h33
  repeat' (first
    | ((with_reducible first | apply Wo_u | apply Wo_n | apply ex2 | apply W_sc | apply W_c | apply Wd_u | apply Wd_n | apply ex4 | apply EndQ_ret | apply EndQ_normal); (conv => lhs; simp -implicitDefEqProofs [*]) <;> exact rfl)
    | (with_reducible first | apply Wo_nil | apply W_ss | apply W_srl | apply W_rl | apply W_sblock | apply W_block | apply W_sskip | apply W_skip | apply W_sret | apply W_ret | apply W_sexit | apply W_exit | apply thenW_n | apply thenW_r | apply thenW_e | apply inB_n | apply inB_r | apply inB_e)
    | ((with_reducible apply Wo_gt); (exact rfl); ((conv => lhs; simp -implicitDefEqProofs [*]) <;> exact rfl); (conv => lhs; simp -implicitDefEqProofs [*]) <;> exact rfl)
    | ((with_reducible apply Wo_gf); (exact rfl); ((conv => lhs; simp -implicitDefEqProofs [*]) <;> exact rfl); (exact rfl))
    | ((with_reducible apply Wo_gx); (exact rfl); ((conv => lhs; simp -implicitDefEqProofs [*]) <;> exact rfl))
    | ((with_reducible apply Wo_gsT); (exact rfl); ((conv => lhs; simp -implicitDefEqProofs [*]) <;> exact rfl))
    | ((with_reducible apply Wo_gsF); (exact rfl); ((conv => lhs; simp -implicitDefEqProofs [*]) <;> exact rfl))
    | ((with_reducible apply Wd_gsT); (exact rfl); ((conv => lhs; simp -implicitDefEqProofs [*]) <;> exact rfl))
    | ((with_reducible apply Wd_gsF); (exact rfl); ((conv => lhs; simp -implicitDefEqProofs [*]) <;> exact rfl))
    | ((with_reducible first | apply W_srdl | apply W_rdl); kernel_rfl)
    | ((with_reducible apply Wd_nil); exact rfl)
    | ((with_reducible apply inB_o); rotate_left; exact rfl)
    | (intro h h'; try simp [*, -h] at h'))
  refine W_loopS (n := n) (fun s0 m q => ∃ k : Nat, m = n - k ∧ k ≤ n ∧ q.fr 7 = iv k ∧ q.hp ⟨0, 3, 0⟩ = .box 1 [uv (walkP x k).d0, uv (walkP x k).d1, uv (walkP x k).d2, uv (walkP x k).d3] false ∧ q.fr 6 = s0.fr 6 ∧ q.fr 3 = s0.fr 3 ∧ q.fr 2 = s0.fr 2 ∧ q.fr 5 = s0.fr 5 ∧ q.hp ⟨0, 5, 0⟩ = s0.hp ⟨0, 5, 0⟩) ⟨0, by omega, by omega, by simp, by simp [walkP], by simp, by simp, by simp, by simp, by simp⟩ ?_
  rintro m ⟨fr, hp⟩ ⟨k, rfl, hk, hs7, hb3, hs6, hs3, hs2, hs5, hb5⟩
  simp at hs7 hb3 hs6 hs3 hs2 hs5 hb5
  by_cases hlt : k < n
  · have hlI : (k : Int) < n := by omega
    have hw := wrapN (k := k) (by omega)
    have h := h33.out k
    repeat' (first
      | ((with_reducible first | apply Wo_u | apply Wo_n | apply ex2 | apply W_sc | apply W_c | apply Wd_u | apply Wd_n | apply ex4 | apply EndQ_ret | apply EndQ_normal); (conv => lhs; simp -implicitDefEqProofs [*]) <;> exact rfl)
      | (with_reducible first | apply Wo_nil | apply W_ss | apply W_srl | apply W_rl | apply W_sblock | apply W_block | apply W_sskip | apply W_skip | apply W_sret | apply W_ret | apply W_sexit | apply W_exit | apply thenW_n | apply thenW_r | apply thenW_e | apply inB_n | apply inB_r | apply inB_e)
      | ((with_reducible apply Wo_gt); (exact rfl); ((conv => lhs; simp -implicitDefEqProofs [*]) <;> exact rfl); (conv => lhs; simp -implicitDefEqProofs [*]) <;> exact rfl)
      | ((with_reducible apply Wo_gf); (exact rfl); ((conv => lhs; simp -implicitDefEqProofs [*]) <;> exact rfl); (exact rfl))
      | ((with_reducible apply Wo_gx); (exact rfl); ((conv => lhs; simp -implicitDefEqProofs [*]) <;> exact rfl))
      | ((with_reducible apply Wo_gsT); (exact rfl); ((conv => lhs; simp -implicitDefEqProofs [*]) <;> exact rfl))
      | ((with_reducible apply Wo_gsF); (exact rfl); ((conv => lhs; simp -implicitDefEqProofs [*]) <;> exact rfl))
      | ((with_reducible apply Wd_gsT); (exact rfl); ((conv => lhs; simp -implicitDefEqProofs [*]) <;> exact rfl))
      | ((with_reducible apply Wd_gsF); (exact rfl); ((conv => lhs; simp -implicitDefEqProofs [*]) <;> exact rfl))
      | ((with_reducible first | apply W_srdl | apply W_rdl); kernel_rfl)
      | ((with_reducible apply Wd_nil); exact rfl)
      | ((with_reducible apply inB_o); rotate_left; exact rfl)
      | (intro h h'; try simp [*, -h] at h'))
    all_goals exact ⟨n - (k + 1), by omega, k + 1, rfl, by omega, by simp [*], by simp [*], by simp [*], by simp [*], by simp [*], by simp [*], by simp [*]⟩
  · obtain rfl : k = n := by omega
    repeat' (first
      | ((with_reducible first | apply Wo_u | apply Wo_n | apply ex2 | apply W_sc | apply W_c | apply Wd_u | apply Wd_n | apply ex4 | apply EndQ_ret | apply EndQ_normal); (conv => lhs; simp -implicitDefEqProofs [*]) <;> exact rfl)
      | (with_reducible first | apply Wo_nil | apply W_ss | apply W_srl | apply W_rl | apply W_sblock | apply W_block | apply W_sskip | apply W_skip | apply W_sret | apply W_ret | apply W_sexit | apply W_exit | apply thenW_n | apply thenW_r | apply thenW_e | apply inB_n | apply inB_r | apply inB_e)
      | ((with_reducible apply Wo_gt); (exact rfl); ((conv => lhs; simp -implicitDefEqProofs [*]) <;> exact rfl); (conv => lhs; simp -implicitDefEqProofs [*]) <;> exact rfl)
      | ((with_reducible apply Wo_gf); (exact rfl); ((conv => lhs; simp -implicitDefEqProofs [*]) <;> exact rfl); (exact rfl))
      | ((with_reducible apply Wo_gx); (exact rfl); ((conv => lhs; simp -implicitDefEqProofs [*]) <;> exact rfl))
      | ((with_reducible apply Wo_gsT); (exact rfl); ((conv => lhs; simp -implicitDefEqProofs [*]) <;> exact rfl))
      | ((with_reducible apply Wo_gsF); (exact rfl); ((conv => lhs; simp -implicitDefEqProofs [*]) <;> exact rfl))
      | ((with_reducible apply Wd_gsT); (exact rfl); ((conv => lhs; simp -implicitDefEqProofs [*]) <;> exact rfl))
      | ((with_reducible apply Wd_gsF); (exact rfl); ((conv => lhs; simp -implicitDefEqProofs [*]) <;> exact rfl))
      | ((with_reducible first | apply W_srdl | apply W_rdl); kernel_rfl)
      | ((with_reducible apply Wd_nil); exact rfl)
      | ((with_reducible apply inB_o); rotate_left; exact rfl)
      | (intro h h'; try simp [*, -h] at h'))
    all_goals rfl
set_option maxHeartbeats 4000000 in
theorem e68 (s : D4) (i : Nat) (hi : i < 4294967296) : (lim Tryz.prog E47 X47).dat 78 [iv i, .dp [.fn 85 [.dp [uv 0, uv 0, uv 0, uv 1] 0]] 0, .dp [uv s.d0, uv s.d1, uv s.d2, uv s.d3] 0] = some [.agg [uv (walkP (beginP s i) 15).d0, uv (walkP (beginP s i) 15).d1, uv (walkP (beginP s i) 15).d2, uv (walkP (beginP s i) 15).d3]] := by
  refine fnW Tryz.func78 rfl rfl bodyOk_78 rfl rtys_78 rfl ?_
  have h64 := e64 s i hi
  have h77 : (lim Tryz.prog E47 X47).dat 85 [.agg [uv (beginP s i).d0, uv (beginP s i).d1, uv (beginP s i).d2, uv (beginP s i).d3], iv 15, .dp [uv 0, uv 0, uv 0, uv 1] 0] = some [.agg [uv (walkP (beginP s i) 15).d0, uv (walkP (beginP s i) 15).d1, uv (walkP (beginP s i) 15).d2, uv (walkP (beginP s i) 15).d3]] := e77 (beginP s i) 15 (by omega)
  simp only [D4.row] at h64
  generalize beginP s i = y at *
  generalize walkP y 15 = z at *
  repeat' (first
    | ((with_reducible first | apply Wo_u | apply Wo_n | apply ex2 | apply W_sc | apply W_c | apply Wd_u | apply Wd_n | apply ex4 | apply EndQ_ret | apply EndQ_normal); (conv => lhs; simp -implicitDefEqProofs [*]) <;> exact rfl)
    | (with_reducible first | apply Wo_nil | apply W_ss | apply W_srl | apply W_rl | apply W_sblock | apply W_block | apply W_sskip | apply W_skip | apply W_sret | apply W_ret | apply W_sexit | apply W_exit | apply thenW_n | apply thenW_r | apply thenW_e | apply inB_n | apply inB_r | apply inB_e)
    | ((with_reducible apply Wo_gt); (exact rfl); ((conv => lhs; simp -implicitDefEqProofs [*]) <;> exact rfl); (conv => lhs; simp -implicitDefEqProofs [*]) <;> exact rfl)
    | ((with_reducible apply Wo_gf); (exact rfl); ((conv => lhs; simp -implicitDefEqProofs [*]) <;> exact rfl); (exact rfl))
    | ((with_reducible apply Wo_gx); (exact rfl); ((conv => lhs; simp -implicitDefEqProofs [*]) <;> exact rfl))
    | ((with_reducible apply Wo_gsT); (exact rfl); ((conv => lhs; simp -implicitDefEqProofs [*]) <;> exact rfl))
    | ((with_reducible apply Wo_gsF); (exact rfl); ((conv => lhs; simp -implicitDefEqProofs [*]) <;> exact rfl))
    | ((with_reducible apply Wd_gsT); (exact rfl); ((conv => lhs; simp -implicitDefEqProofs [*]) <;> exact rfl))
    | ((with_reducible apply Wd_gsF); (exact rfl); ((conv => lhs; simp -implicitDefEqProofs [*]) <;> exact rfl))
    | ((with_reducible first | apply W_srdl | apply W_rdl); kernel_rfl)
    | ((with_reducible apply Wd_nil); exact rfl)
    | ((with_reducible apply inB_o); rotate_left; exact rfl)
    | (intro h h'; try simp [*, -h] at h'))
  all_goals rfl
set_option maxHeartbeats 4000000 in
theorem e67_68 (s : D4) : (lim Tryz.prog E47 X47).dat 66 [.fn 78 [.dp [.fn 85 [.dp [uv 0, uv 0, uv 0, uv 1] 0]] 0, .dp [uv s.d0, uv s.d1, uv s.d2, uv s.d3] 0]] = some [.agg [uv (publicP s).d0, uv (publicP s).d1, uv (publicP s).d2, uv (publicP s).d3]] := by
  refine fnW Tryz.func66 rfl rfl bodyOk_66 rfl rtys_66 rfl ?_
  have h33 : ∀ k, (lim Tryz.prog E47 X47).dat 29 [.agg [uv (togetherP (fun i => walkP (beginP s i) 15) k).d0, uv (togetherP (fun i => walkP (beginP s i) 15) k).d1, uv (togetherP (fun i => walkP (beginP s i) 15) k).d2, uv (togetherP (fun i => walkP (beginP s i) 15) k).d3], .agg [uv (walkP (beginP s k) 15).d0, uv (walkP (beginP s k) 15).d1, uv (walkP (beginP s k) 15).d2, uv (walkP (beginP s k) 15).d3]] = some [.agg [uv (togetherP (fun i => walkP (beginP s i) 15) (k + 1)).d0, uv (togetherP (fun i => walkP (beginP s i) 15) (k + 1)).d1, uv (togetherP (fun i => walkP (beginP s i) 15) (k + 1)).d2, uv (togetherP (fun i => walkP (beginP s i) 15) (k + 1)).d3]] := fun k => e33 _ _
  replace h33 := Lib.hid h33
  have h68 := Lib.hid (e68 s)
  repeat' (first
    | ((with_reducible first | apply Wo_u | apply Wo_n | apply ex2 | apply W_sc | apply W_c | apply Wd_u | apply Wd_n | apply ex4 | apply EndQ_ret | apply EndQ_normal); (conv => lhs; simp -implicitDefEqProofs [*]) <;> exact rfl)
    | (with_reducible first | apply Wo_nil | apply W_ss | apply W_srl | apply W_rl | apply W_sblock | apply W_block | apply W_sskip | apply W_skip | apply W_sret | apply W_ret | apply W_sexit | apply W_exit | apply thenW_n | apply thenW_r | apply thenW_e | apply inB_n | apply inB_r | apply inB_e)
    | ((with_reducible apply Wo_gt); (exact rfl); ((conv => lhs; simp -implicitDefEqProofs [*]) <;> exact rfl); (conv => lhs; simp -implicitDefEqProofs [*]) <;> exact rfl)
    | ((with_reducible apply Wo_gf); (exact rfl); ((conv => lhs; simp -implicitDefEqProofs [*]) <;> exact rfl); (exact rfl))
    | ((with_reducible apply Wo_gx); (exact rfl); ((conv => lhs; simp -implicitDefEqProofs [*]) <;> exact rfl))
    | ((with_reducible apply Wo_gsT); (exact rfl); ((conv => lhs; simp -implicitDefEqProofs [*]) <;> exact rfl))
    | ((with_reducible apply Wo_gsF); (exact rfl); ((conv => lhs; simp -implicitDefEqProofs [*]) <;> exact rfl))
    | ((with_reducible apply Wd_gsT); (exact rfl); ((conv => lhs; simp -implicitDefEqProofs [*]) <;> exact rfl))
    | ((with_reducible apply Wd_gsF); (exact rfl); ((conv => lhs; simp -implicitDefEqProofs [*]) <;> exact rfl))
    | ((with_reducible first | apply W_srdl | apply W_rdl); kernel_rfl)
    | ((with_reducible apply Wd_nil); exact rfl)
    | ((with_reducible apply inB_o); rotate_left; exact rfl)
    | (intro h h'; try simp [*, -h] at h'))
  refine W_loopS (n := 35) (fun s0 m q => ∃ k : Nat, m = 35 - k ∧ k ≤ 35 ∧ q.fr 6 = iv k ∧ q.hp ⟨0, 3, 0⟩ = .box 1 [uv (togetherP (fun i => walkP (beginP s i) 15) k).d0, uv (togetherP (fun i => walkP (beginP s i) 15) k).d1, uv (togetherP (fun i => walkP (beginP s i) 15) k).d2, uv (togetherP (fun i => walkP (beginP s i) 15) k).d3] false ∧ q.fr 0 = s0.fr 0 ∧ q.fr 3 = s0.fr 3 ∧ q.fr 2 = s0.fr 2 ∧ q.hp ⟨0, 2, 0⟩ = s0.hp ⟨0, 2, 0⟩) ⟨0, by omega, by omega, by simp, by simp [togetherP], by simp, by simp, by simp, by simp⟩ ?_
  rintro m ⟨fr, hp⟩ ⟨k, rfl, hk, hs6, hb3, hs0, hs3, hs2, hb2⟩
  simp at hs6 hb3 hs0 hs3 hs2 hb2
  by_cases hlt : k < 35
  · have hlI : (k : Int) < 35 := by omega
    have hw := wrapN (k := k) (by omega)
    have h := h33.out k
    have h' := h68.out k (by omega)
    repeat' (first
      | ((with_reducible first | apply Wo_u | apply Wo_n | apply ex2 | apply W_sc | apply W_c | apply Wd_u | apply Wd_n | apply ex4 | apply EndQ_ret | apply EndQ_normal); (conv => lhs; simp -implicitDefEqProofs [*]) <;> exact rfl)
      | (with_reducible first | apply Wo_nil | apply W_ss | apply W_srl | apply W_rl | apply W_sblock | apply W_block | apply W_sskip | apply W_skip | apply W_sret | apply W_ret | apply W_sexit | apply W_exit | apply thenW_n | apply thenW_r | apply thenW_e | apply inB_n | apply inB_r | apply inB_e)
      | ((with_reducible apply Wo_gt); (exact rfl); ((conv => lhs; simp -implicitDefEqProofs [*]) <;> exact rfl); (conv => lhs; simp -implicitDefEqProofs [*]) <;> exact rfl)
      | ((with_reducible apply Wo_gf); (exact rfl); ((conv => lhs; simp -implicitDefEqProofs [*]) <;> exact rfl); (exact rfl))
      | ((with_reducible apply Wo_gx); (exact rfl); ((conv => lhs; simp -implicitDefEqProofs [*]) <;> exact rfl))
      | ((with_reducible apply Wo_gsT); (exact rfl); ((conv => lhs; simp -implicitDefEqProofs [*]) <;> exact rfl))
      | ((with_reducible apply Wo_gsF); (exact rfl); ((conv => lhs; simp -implicitDefEqProofs [*]) <;> exact rfl))
      | ((with_reducible apply Wd_gsT); (exact rfl); ((conv => lhs; simp -implicitDefEqProofs [*]) <;> exact rfl))
      | ((with_reducible apply Wd_gsF); (exact rfl); ((conv => lhs; simp -implicitDefEqProofs [*]) <;> exact rfl))
      | ((with_reducible first | apply W_srdl | apply W_rdl); kernel_rfl)
      | ((with_reducible apply Wd_nil); exact rfl)
      | ((with_reducible apply inB_o); rotate_left; exact rfl)
      | (intro h h'; try simp [*, -h] at h'))
    all_goals exact ⟨35 - (k + 1), by omega, k + 1, rfl, by omega, by simp [*], by simp [*], by simp [*], by simp [*], by simp [*], by simp [*]⟩
  · obtain rfl : k = 35 := by omega
    repeat' (first
      | ((with_reducible first | apply Wo_u | apply Wo_n | apply ex2 | apply W_sc | apply W_c | apply Wd_u | apply Wd_n | apply ex4 | apply EndQ_ret | apply EndQ_normal); (conv => lhs; simp -implicitDefEqProofs [*]) <;> exact rfl)
      | (with_reducible first | apply Wo_nil | apply W_ss | apply W_srl | apply W_rl | apply W_sblock | apply W_block | apply W_sskip | apply W_skip | apply W_sret | apply W_ret | apply W_sexit | apply W_exit | apply thenW_n | apply thenW_r | apply thenW_e | apply inB_n | apply inB_r | apply inB_e)
      | ((with_reducible apply Wo_gt); (exact rfl); ((conv => lhs; simp -implicitDefEqProofs [*]) <;> exact rfl); (conv => lhs; simp -implicitDefEqProofs [*]) <;> exact rfl)
      | ((with_reducible apply Wo_gf); (exact rfl); ((conv => lhs; simp -implicitDefEqProofs [*]) <;> exact rfl); (exact rfl))
      | ((with_reducible apply Wo_gx); (exact rfl); ((conv => lhs; simp -implicitDefEqProofs [*]) <;> exact rfl))
      | ((with_reducible apply Wo_gsT); (exact rfl); ((conv => lhs; simp -implicitDefEqProofs [*]) <;> exact rfl))
      | ((with_reducible apply Wo_gsF); (exact rfl); ((conv => lhs; simp -implicitDefEqProofs [*]) <;> exact rfl))
      | ((with_reducible apply Wd_gsT); (exact rfl); ((conv => lhs; simp -implicitDefEqProofs [*]) <;> exact rfl))
      | ((with_reducible apply Wd_gsF); (exact rfl); ((conv => lhs; simp -implicitDefEqProofs [*]) <;> exact rfl))
      | ((with_reducible first | apply W_srdl | apply W_rdl); kernel_rfl)
      | ((with_reducible apply Wd_nil); exact rfl)
      | ((with_reducible apply inB_o); rotate_left; exact rfl)
      | (intro h h'; try simp [*, -h] at h'))
    all_goals rfl
set_option maxHeartbeats 4000000 in
theorem e53 (s : D4) : (lim Tryz.prog E47 X47).dat 55 [.agg [uv s.d0, uv s.d1, uv s.d2, uv s.d3]] = some [.agg [uv (publicP s).d0, uv (publicP s).d1, uv (publicP s).d2, uv (publicP s).d3]] := by
  refine fnW Tryz.func55 rfl rfl bodyOk_55 rfl rtys_55 rfl ?_
  have h62 := e62
  have h67 := e67_68 s
  generalize publicP s = y at *
  repeat' (first
    | ((with_reducible first | apply Wo_u | apply Wo_n | apply ex2 | apply W_sc | apply W_c | apply Wd_u | apply Wd_n | apply ex4 | apply EndQ_ret | apply EndQ_normal); (conv => lhs; simp -implicitDefEqProofs [*]) <;> exact rfl)
    | (with_reducible first | apply Wo_nil | apply W_ss | apply W_srl | apply W_rl | apply W_sblock | apply W_block | apply W_sskip | apply W_skip | apply W_sret | apply W_ret | apply W_sexit | apply W_exit | apply thenW_n | apply thenW_r | apply thenW_e | apply inB_n | apply inB_r | apply inB_e)
    | ((with_reducible apply Wo_gt); (exact rfl); ((conv => lhs; simp -implicitDefEqProofs [*]) <;> exact rfl); (conv => lhs; simp -implicitDefEqProofs [*]) <;> exact rfl)
    | ((with_reducible apply Wo_gf); (exact rfl); ((conv => lhs; simp -implicitDefEqProofs [*]) <;> exact rfl); (exact rfl))
    | ((with_reducible apply Wo_gx); (exact rfl); ((conv => lhs; simp -implicitDefEqProofs [*]) <;> exact rfl))
    | ((with_reducible apply Wo_gsT); (exact rfl); ((conv => lhs; simp -implicitDefEqProofs [*]) <;> exact rfl))
    | ((with_reducible apply Wo_gsF); (exact rfl); ((conv => lhs; simp -implicitDefEqProofs [*]) <;> exact rfl))
    | ((with_reducible apply Wd_gsT); (exact rfl); ((conv => lhs; simp -implicitDefEqProofs [*]) <;> exact rfl))
    | ((with_reducible apply Wd_gsF); (exact rfl); ((conv => lhs; simp -implicitDefEqProofs [*]) <;> exact rfl))
    | ((with_reducible first | apply W_srdl | apply W_rdl); kernel_rfl)
    | ((with_reducible apply Wd_nil); exact rfl)
    | ((with_reducible apply inB_o); rotate_left; exact rfl)
    | (intro h h'; try simp [*, -h] at h'))
  all_goals rfl
end Go.Proofs.YtdokejnokhicbaaGreatDoor
