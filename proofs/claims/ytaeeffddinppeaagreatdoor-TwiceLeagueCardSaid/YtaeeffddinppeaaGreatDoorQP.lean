/- What is said is what comes out; the law, walked. -/
import Derived.Test.YtaeeffddinppeaaGreatDoorQO
import Derived.Test.YtaeeffddinppeaaGreatDoorQI
set_option linter.unusedSimpArgs false
set_option linter.unusedVariables false
namespace Go.Proofs.YtaeeffddinppeaaGreatDoor
open Go Go.Ab
attribute [-simp] Prog.bind getCs putCs
attribute [local simp ↓] run_bind
attribute [local simp ↓] runF_bind
attribute [local simp] run_getCsN runF_getCsN facetsC putCs_one run_putCsN runF_putCsN facetsW facetsH
theorem toB_num : ∀ l : List UInt8, toBytes (numB l) = l
  | [] => rfl
  | b :: l => by
    show UInt8.ofNat _ :: toBytes (numB l) = b :: l
    rw [toB_num l]
    congr 1
    apply UInt8.toNat_inj.1
    have := b.toNat_lt
    simp
theorem outT_num (s : ByteArray) : outT (numB s.data.toList) = s := by
  unfold outT
  rw [toB_num]
theorem spk_size (s : ByteArray) (hs : s.size ≤ 1000) : (spk s).size ≤ 1048576 := by
  unfold spk
  rw [txtI_size, List.length_append, prs_len]
  have : s.data.toList.length = s.size := rfl
  simp
  omega
theorem said (s src : ByteArray) (fuel : Int) (hs : s.size ≤ 1000) (hf : 2 * (s.size : Int) + 1 ≤ fuel) : goodI (spk s) src fuel = some s := by
  have hsl : s.data.toList.length = s.size := rfl
  obtain ⟨h1, h2, h3⟩ := img_txtI (prs s.data.toList ++ [436207616]) 0 (by rw [List.length_append, prs_len]; simp; omega) ⟨by decide, by decide⟩ (fun x hx => by
      rcases List.mem_append.1 hx with h | h
      · exact prs_U _ x h
      · simp at h; subst h; exact ⟨by decide, by decide⟩)
  have hrun := Ma.say_run (inpF src) (numB s.data.toList) (fun y hy => by
    obtain ⟨b, _, rfl⟩ := List.mem_map.1 hy
    have := b.toNat_lt
    omega) [] (startM []) fuel.toNat rfl rfl rfl (by simp [startM, numB]; omega) (by simp [numB]; omega)
  have hst : stI (spk s) src fuel = Ma.runP ([] ++ Ma.sayC (numB s.data.toList)) (inpF src) fuel.toNat (startM []) := by
    unfold stI runI spk
    rw [h2, h3, prs_say]
    rfl
  unfold goodI
  rw [hst]
  unfold endI
  rw [hrun.1, hrun.2, if_pos ⟨h1, by decide⟩]
  show some (outT ([] ++ numB s.data.toList)) = _
  rw [List.nil_append, outT_num]
def Par.rowV (p : Par) : List AV := [iv p.kind, .vec 1 (rowN p.ps), .sc (.string p.img), iv p.fuel, uv p.mark.d0, uv p.mark.d1, uv p.mark.d2, uv p.mark.d3, .sc (.string p.give)]
def plant (src other : ByteArray) : Par := ⟨4, [], ⟨#[]⟩, 0, ofP src, spk other⟩
set_option maxHeartbeats 8000000 in
theorem g21 (src other : ByteArray) (hs : src.size ≤ 1000) (ho : other.size ≤ 1000) : (lim Tryz.prog E47 X47).dat 21 [.sc (.string src), .sc (.string other)] = some [.agg (plant src other).rowV] := by
  refine fnW Tryz.func21 rfl rfl bodyOk_21 rfl rtys_21 rfl ?_
  have h27 := e27 src (by omega)
  have h48 := g48 other ho
  unfold plant
  simp only [Par.rowV, List.map_nil] at h27 h48 ⊢
  generalize ofP src = d at *
  generalize spk other = SP at *
  obtain ⟨d0, d1, d2, d3⟩ := d
  simp only [D4.row] at h27
  clear hs ho
  repeat' (first
    | ((with_reducible first | apply Wo_u | apply Wo_n | apply ex2 | apply W_sc | apply W_c | apply Wd_u | apply Wd_n | apply ex4 | apply EndQ_ret | apply EndQ_normal); (conv => lhs; simp -implicitDefEqProofs [*]) <;> exact rfl)
    | (with_reducible first | apply Wo_nil | apply W_ss | apply W_srl | apply W_rl | apply W_sblock | apply W_block | apply W_sskip | apply W_skip | apply W_sret | apply W_ret | apply W_sexit | apply W_exit | apply thenW_n | apply thenW_r | apply thenW_e | apply inB_n | apply inB_r | apply inB_e)
    | ((with_reducible apply Wo_gt); (exact rfl); ((conv => lhs; simp -implicitDefEqProofs [*]) <;> exact rfl); (conv => lhs; simp -implicitDefEqProofs [*]) <;> exact rfl)
    | ((with_reducible apply Wo_gf); (exact rfl); ((conv => lhs; simp -implicitDefEqProofs [*]) <;> exact rfl); (exact rfl))
    | ((with_reducible apply Wo_gx); (exact rfl); ((conv => lhs; simp -implicitDefEqProofs [*]) <;> exact rfl))
    | ((with_reducible apply Wo_gsT); (exact rfl); ((conv => lhs; simp -implicitDefEqProofs [*]) <;> exact rfl))
    | ((with_reducible apply Wo_gsF); (exact rfl); ((conv => lhs; simp -implicitDefEqProofs [*]) <;> exact rfl))
    | ((with_reducible apply Wd_gsT); (exact rfl); ((conv => lhs; simp -implicitDefEqProofs [*]) <;> exact rfl))
    | ((with_reducible apply Wd_gsF); (exact rfl); ((conv => lhs; simp -implicitDefEqProofs [*]) <;> exact rfl))
    | ((with_reducible first | apply W_srdl | apply W_rdl); kernel_rfl)
    | ((with_reducible apply Wd_nil); kernel_rfl)
    | ((with_reducible apply inB_o); rotate_left; exact rfl)
    | (intro h h'; try simp [*, -h] at h')
    | ((with_reducible apply Wd_gx); (exact rfl); ((conv => lhs; simp -implicitDefEqProofs [*]) <;> exact rfl)))
  all_goals rfl
theorem g24p (src o other : ByteArray) (fuel : Int) (hs : src.size ≤ 1000) (ho : o.size ≤ 1000) (ho' : other.size ≤ 1000) (hf : 2 * (o.size : Int) + 1 ≤ fuel) (hf2 : fuel ≤ 1000) : (lim Tryz.prog E47 X47).dat 24 [.sc (.string src), .sc (.string other), .agg (plant src o).row, iv fuel] = some (onceR (some o) other) := by
  refine g24 _ src other fuel (some o) (by omega) (fun x hx => by cases hx; omega) ?_
  rw [← said o src fuel ho hf]
  exact g49 _ src fuel (by omega) (by omega) (spk_size o ho) (g16m _ src rfl rfl (by omega))
theorem g28w : (lim Tryz.prog E47 X47).dat 28 [.agg [iv 8, iv 1, iv 17]] = some [.sc (.string ⟨#[112, 97, 114, 101, 110, 116, 32, 49, 58, 32, 98, 121, 116, 101, 32, 49, 55]⟩)] := lim_dat.2 ⟨200, by kernel_rfl⟩
set_option maxHeartbeats 8000000 in
theorem g20 : (lim Tryz.prog E47 X47).dat 20 [] = some [bv true] := by
  refine fnW Tryz.func20 rfl rfl bodyOk_20 rfl rtys_20 rfl ?_
  have h21 := g21 ⟨#[120]⟩ ⟨#[97, 98]⟩ (by decide) (by decide)
  have h24 := g24p ⟨#[120]⟩ ⟨#[97, 98]⟩ ⟨#[97, 98]⟩ 99 (by decide) (by decide) (by decide) (by decide) (by decide)
  have h24' := g24p ⟨#[120]⟩ ⟨#[97, 98]⟩ ⟨#[97, 99]⟩ 99 (by decide) (by decide) (by decide) (by decide) (by decide)
  have hd : diffB ⟨#[97, 98]⟩ ⟨#[97, 98]⟩ = -1 := by decide
  have hd' : diffB ⟨#[97, 98]⟩ ⟨#[97, 99]⟩ = 1 := by decide
  unfold onceR at h24 h24'
  simp only at h24 h24'
  rw [if_pos hd] at h24
  rw [hd', if_neg (by decide)] at h24'
  have h22 := g22 _ _ _ _ _ _ _ _ _ h24' h24'
  have h28 := g28w
  unfold checkR at h22
  rw [if_pos (by decide)] at h22
  clear h24' hd hd'
  generalize plant ⟨#[120]⟩ ⟨#[97, 98]⟩ = q at *
  obtain ⟨kind, ps, img, qf, ⟨d0, d1, d2, d3⟩, give⟩ := q
  simp only [Par.row, Par.rowV] at *
  generalize rowN ps = PR at *
  repeat' (first
    | ((with_reducible first | apply Wo_u | apply Wo_n | apply ex2 | apply W_sc | apply W_c | apply Wd_u | apply Wd_n | apply ex4 | apply EndQ_ret | apply EndQ_normal); (conv => lhs; simp -implicitDefEqProofs [*]) <;> exact rfl)
    | (with_reducible first | apply Wo_nil | apply W_ss | apply W_srl | apply W_rl | apply W_sblock | apply W_block | apply W_sskip | apply W_skip | apply W_sret | apply W_ret | apply W_sexit | apply W_exit | apply thenW_n | apply thenW_r | apply thenW_e | apply inB_n | apply inB_r | apply inB_e)
    | ((with_reducible apply Wo_gt); (exact rfl); ((conv => lhs; simp -implicitDefEqProofs [*]) <;> exact rfl); (conv => lhs; simp -implicitDefEqProofs [*]) <;> exact rfl)
    | ((with_reducible apply Wo_gf); (exact rfl); ((conv => lhs; simp -implicitDefEqProofs [*]) <;> exact rfl); (exact rfl))
    | ((with_reducible apply Wo_gx); (exact rfl); ((conv => lhs; simp -implicitDefEqProofs [*]) <;> exact rfl))
    | ((with_reducible apply Wo_gsT); (exact rfl); ((conv => lhs; simp -implicitDefEqProofs [*]) <;> exact rfl))
    | ((with_reducible apply Wo_gsF); (exact rfl); ((conv => lhs; simp -implicitDefEqProofs [*]) <;> exact rfl))
    | ((with_reducible apply Wd_gsT); (exact rfl); ((conv => lhs; simp -implicitDefEqProofs [*]) <;> exact rfl))
    | ((with_reducible apply Wd_gsF); (exact rfl); ((conv => lhs; simp -implicitDefEqProofs [*]) <;> exact rfl))
    | ((with_reducible first | apply W_srdl | apply W_rdl); kernel_rfl)
    | ((with_reducible apply Wd_nil); kernel_rfl)
    | ((with_reducible apply inB_o); rotate_left; exact rfl)
    | (intro h h'; try simp [*, -h] at h')
    | ((with_reducible apply Wd_gx); (exact rfl); ((conv => lhs; simp -implicitDefEqProofs [*]) <;> exact rfl)))
  all_goals rfl
set_option maxHeartbeats 8000000 in
theorem g5 (src other : ByteArray) : (lim Tryz.prog E47 X47).dat 5 [.sc (.string src), .sc (.string other)] = some [bv true] := by
  refine fnW Tryz.func5 rfl rfl bodyOk_5 rfl rtys_5 rfl ?_
  have h20 := g20
  by_cases h1 : (400 : Int) < src.size
  · have h1' : ¬ (src.size : Int) ≤ 400 := by omega
    repeat' (first
      | ((with_reducible first | apply Wo_u | apply Wo_n | apply ex2 | apply W_sc | apply W_c | apply Wd_u | apply Wd_n | apply ex4 | apply EndQ_ret | apply EndQ_normal); (conv => lhs; simp -implicitDefEqProofs [*]) <;> exact rfl)
      | (with_reducible first | apply Wo_nil | apply W_ss | apply W_srl | apply W_rl | apply W_sblock | apply W_block | apply W_sskip | apply W_skip | apply W_sret | apply W_ret | apply W_sexit | apply W_exit | apply thenW_n | apply thenW_r | apply thenW_e | apply inB_n | apply inB_r | apply inB_e)
      | ((with_reducible apply Wo_gt); (exact rfl); ((conv => lhs; simp -implicitDefEqProofs [*]) <;> exact rfl); (conv => lhs; simp -implicitDefEqProofs [*]) <;> exact rfl)
      | ((with_reducible apply Wo_gf); (exact rfl); ((conv => lhs; simp -implicitDefEqProofs [*]) <;> exact rfl); (exact rfl))
      | ((with_reducible apply Wo_gx); (exact rfl); ((conv => lhs; simp -implicitDefEqProofs [*]) <;> exact rfl))
      | ((with_reducible apply Wo_gsT); (exact rfl); ((conv => lhs; simp -implicitDefEqProofs [*]) <;> exact rfl))
      | ((with_reducible apply Wo_gsF); (exact rfl); ((conv => lhs; simp -implicitDefEqProofs [*]) <;> exact rfl))
      | ((with_reducible apply Wd_gsT); (exact rfl); ((conv => lhs; simp -implicitDefEqProofs [*]) <;> exact rfl))
      | ((with_reducible apply Wd_gsF); (exact rfl); ((conv => lhs; simp -implicitDefEqProofs [*]) <;> exact rfl))
      | ((with_reducible first | apply W_srdl | apply W_rdl); kernel_rfl)
      | ((with_reducible apply Wd_nil); kernel_rfl)
      | ((with_reducible apply inB_o); rotate_left; exact rfl)
      | (intro h h'; try simp [*, -h] at h')
      | ((with_reducible apply Wd_gx); (exact rfl); ((conv => lhs; simp -implicitDefEqProofs [*]) <;> exact rfl)))
    all_goals rfl
  · by_cases h2 : (300 : Int) < other.size
    · have h1' : (src.size : Int) ≤ 400 := by omega
      repeat' (first
        | ((with_reducible first | apply Wo_u | apply Wo_n | apply ex2 | apply W_sc | apply W_c | apply Wd_u | apply Wd_n | apply ex4 | apply EndQ_ret | apply EndQ_normal); (conv => lhs; simp -implicitDefEqProofs [*]) <;> exact rfl)
        | (with_reducible first | apply Wo_nil | apply W_ss | apply W_srl | apply W_rl | apply W_sblock | apply W_block | apply W_sskip | apply W_skip | apply W_sret | apply W_ret | apply W_sexit | apply W_exit | apply thenW_n | apply thenW_r | apply thenW_e | apply inB_n | apply inB_r | apply inB_e)
        | ((with_reducible apply Wo_gt); (exact rfl); ((conv => lhs; simp -implicitDefEqProofs [*]) <;> exact rfl); (conv => lhs; simp -implicitDefEqProofs [*]) <;> exact rfl)
        | ((with_reducible apply Wo_gf); (exact rfl); ((conv => lhs; simp -implicitDefEqProofs [*]) <;> exact rfl); (exact rfl))
        | ((with_reducible apply Wo_gx); (exact rfl); ((conv => lhs; simp -implicitDefEqProofs [*]) <;> exact rfl))
        | ((with_reducible apply Wo_gsT); (exact rfl); ((conv => lhs; simp -implicitDefEqProofs [*]) <;> exact rfl))
        | ((with_reducible apply Wo_gsF); (exact rfl); ((conv => lhs; simp -implicitDefEqProofs [*]) <;> exact rfl))
        | ((with_reducible apply Wd_gsT); (exact rfl); ((conv => lhs; simp -implicitDefEqProofs [*]) <;> exact rfl))
        | ((with_reducible apply Wd_gsF); (exact rfl); ((conv => lhs; simp -implicitDefEqProofs [*]) <;> exact rfl))
        | ((with_reducible first | apply W_srdl | apply W_rdl); kernel_rfl)
        | ((with_reducible apply Wd_nil); kernel_rfl)
        | ((with_reducible apply inB_o); rotate_left; exact rfl)
        | (intro h h'; try simp [*, -h] at h')
        | ((with_reducible apply Wd_gx); (exact rfl); ((conv => lhs; simp -implicitDefEqProofs [*]) <;> exact rfl)))
      all_goals rfl
    · have h1' : (src.size : Int) ≤ 400 := by omega
      have h2' : (other.size : Int) ≤ 300 := by omega
      have h21 := g21 src other (by omega) (by omega)
      have h24 := g24p src other other 1000 (by omega) (by omega) (by omega) (by omega) (by decide)
      unfold onceR at h24
      simp only at h24
      rw [if_pos ((diffB_iff _ _).2 rfl)] at h24
      have h22 := g22 _ _ _ _ _ _ _ _ _ h24 h24
      unfold checkR at h22
      rw [if_neg (by decide), if_neg (by decide)] at h22
      clear h24
      generalize plant src other = q at *
      obtain ⟨kind, ps, img, qf, ⟨d0, d1, d2, d3⟩, give⟩ := q
      simp only [Par.row, Par.rowV] at *
      generalize rowN ps = PR at *
      repeat' (first
        | ((with_reducible first | apply Wo_u | apply Wo_n | apply ex2 | apply W_sc | apply W_c | apply Wd_u | apply Wd_n | apply ex4 | apply EndQ_ret | apply EndQ_normal); (conv => lhs; simp -implicitDefEqProofs [*]) <;> exact rfl)
        | (with_reducible first | apply Wo_nil | apply W_ss | apply W_srl | apply W_rl | apply W_sblock | apply W_block | apply W_sskip | apply W_skip | apply W_sret | apply W_ret | apply W_sexit | apply W_exit | apply thenW_n | apply thenW_r | apply thenW_e | apply inB_n | apply inB_r | apply inB_e)
        | ((with_reducible apply Wo_gt); (exact rfl); ((conv => lhs; simp -implicitDefEqProofs [*]) <;> exact rfl); (conv => lhs; simp -implicitDefEqProofs [*]) <;> exact rfl)
        | ((with_reducible apply Wo_gf); (exact rfl); ((conv => lhs; simp -implicitDefEqProofs [*]) <;> exact rfl); (exact rfl))
        | ((with_reducible apply Wo_gx); (exact rfl); ((conv => lhs; simp -implicitDefEqProofs [*]) <;> exact rfl))
        | ((with_reducible apply Wo_gsT); (exact rfl); ((conv => lhs; simp -implicitDefEqProofs [*]) <;> exact rfl))
        | ((with_reducible apply Wo_gsF); (exact rfl); ((conv => lhs; simp -implicitDefEqProofs [*]) <;> exact rfl))
        | ((with_reducible apply Wd_gsT); (exact rfl); ((conv => lhs; simp -implicitDefEqProofs [*]) <;> exact rfl))
        | ((with_reducible apply Wd_gsF); (exact rfl); ((conv => lhs; simp -implicitDefEqProofs [*]) <;> exact rfl))
        | ((with_reducible first | apply W_srdl | apply W_rdl); kernel_rfl)
        | ((with_reducible apply Wd_nil); kernel_rfl)
        | ((with_reducible apply inB_o); rotate_left; exact rfl)
        | (intro h h'; try simp [*, -h] at h')
        | ((with_reducible apply Wd_gx); (exact rfl); ((conv => lhs; simp -implicitDefEqProofs [*]) <;> exact rfl)))
      all_goals rfl
end Go.Proofs.YtaeeffddinppeaaGreatDoor
