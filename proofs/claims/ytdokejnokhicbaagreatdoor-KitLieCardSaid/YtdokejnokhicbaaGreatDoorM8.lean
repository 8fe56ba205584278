/- Law 47: an image as instructions, walked. -/
import Derived.Test.YtdokejnokhicbaaGreatDoorM7
import Derived.Test.YtdokejnokhicbaaGreatDoorK3
namespace Go.Proofs.YtdokejnokhicbaaGreatDoor
open Go Go.Ab
set_option linter.unusedSimpArgs false
set_option linter.unusedVariables false
def Z4 : List AV := [iv 0, iv 0, iv 0, iv 0]
def fil {α : Type} (f : Int → α) (z : α) (l : List Int) (k : Nat) : List α := (l.take k).map f ++ List.replicate (l.length - k) z
theorem fil_len {α : Type} (f : Int → α) (z : α) (l : List Int) (k : Nat) (h : k ≤ l.length) : (fil f z l k).length = l.length := by simp [fil]; omega
theorem fil_zero {α : Type} (f : Int → α) (z : α) (l : List Int) : fil f z l 0 = List.replicate l.length z := by simp [fil]
theorem fil_all {α : Type} (f : Int → α) (z : α) (l : List Int) : fil f z l l.length = l.map f := by simp [fil]
theorem fil_get {α : Type} (f : Int → α) (z : α) (l : List Int) (k : Nat) (h : k < l.length) : (fil f z l k)[k]? = some z := by
  unfold fil
  rw [List.getElem?_append_right (by simp; omega)]
  simp [List.length_take, Nat.min_eq_left (Nat.le_of_lt h), List.getElem?_replicate]; omega
theorem fil_set {α : Type} (f : Int → α) (z : α) (l : List Int) (k : Nat) (w : Int) (h : l[k]? = some w) : (fil f z l k).set k (f w) = fil f z l (k + 1) := by
  have hk := (List.getElem?_eq_some_iff.1 h).1
  unfold fil
  rw [List.set_append_right _ _ (by simp; omega), List.take_add_one, h, List.map_append]
  obtain ⟨m, hm⟩ : ∃ m, l.length - k = m + 1 := ⟨l.length - k - 1, by omega⟩
  rw [show l.length - (k + 1) = m from by omega, hm, List.replicate_succ]
  simp [Nat.min_eq_left (Nat.le_of_lt hk)]
theorem decR_four (w : Int) : ∃ a b c d : Int, decR w = [iv a, iv b, iv c, iv d] := by
  unfold decR
  split
  · exact ⟨_, _, _, _, rfl⟩
  · exact ⟨0, 0, 0, 0, rfl⟩
set_option maxHeartbeats 4000000 in
theorem d38 (l : List Int) (data : Int) (hl : l.length ≤ 1048576) (hU : ∀ x ∈ l, U x) : (lim Tryz.prog E47 X47).dat 88 [.agg [.sl false 1 (rowW l), iv data]] = some [.vec 4 (rowD l), .vec 1 (rowK l)] := by
  refine fnW Tryz.func88 rfl rfl bodyOk_88 rfl rtys_88 rfl ?_
  have n1 : 4 * l.length ≤ 140737488355328 := by omega
  have n2 : l.length ≤ 140737488355328 := by omega
  have n3 : (l.length : Int) * 32 ≤ 140737488355328 := by omega
  have n4 : (l.length : Int) ≤ 9223372036854775807 := by omega
  have n5 : (l.length : Int) ≤ 140737488355328 := by omega
  repeat' (first
    | ((with_reducible first | apply Wo_u | apply Wo_n | apply ex2 | apply W_sc | apply W_c | apply Wd_u | apply Wd_n | apply ex4 | apply EndQ_ret | apply EndQ_normal); (conv => lhs; simp -implicitDefEqProofs [*]) <;> exact rfl)
    | (with_reducible first | apply Wo_nil | apply W_ss | apply W_srl | apply W_rl | apply W_sblock | apply W_block | apply W_sskip | apply W_skip | apply W_sret | apply W_ret | apply W_sexit | apply W_exit | apply thenW_n | apply thenW_r | apply thenW_e | apply inB_n | apply inB_r | apply inB_e)
    | ((with_reducible apply Wo_gt); (exact rfl); ((conv => lhs; simp -implicitDefEqProofs [*]) <;> exact rfl); (conv => lhs; simp -implicitDefEqProofs [*]) <;> exact rfl)
    | ((with_reducible apply Wo_gf); (exact rfl); ((conv => lhs; simp -implicitDefEqProofs [*]) <;> exact rfl); (exact rfl))
    | ((with_reducible apply Wo_gx); (exact rfl); ((conv => lhs; simp -implicitDefEqProofs [*]) <;> exact rfl))
    | ((with_reducible apply Wo_gsT); (exact rfl); ((conv => lhs; simp -implicitDefEqProofs [*]) <;> exact rfl))
    | ((with_reducible apply Wo_gsF); (exact rfl); ((conv => lhs; simp -implicitDefEqProofs [*]) <;> exact rfl))
    | ((with_reducible apply Wd_gsT); (exact rfl); ((conv => lhs; simp -implicitDefEqProofs [*]) <;> exact rfl))
    | ((with_reducible apply Wd_gsF); (exact rfl); ((conv => lhs; simp -implicitDefEqProofs [*]) <;> exact rfl))
    | ((with_reducible first | apply W_srdl | apply W_rdl); kernel_rfl)
    | ((with_reducible apply Wd_nil); exact rfl)
    | ((with_reducible apply inB_o); rotate_left; exact rfl)
    | (intro h h'; try simp [*, -h] at h'))
  refine W_loopS (n := l.length) (fun s0 m q => ∃ k : Nat, m = l.length - k ∧ k ≤ l.length ∧ q.fr 6 = iv k ∧ q.fr 1 = s0.fr 1 ∧ q.fr 4 = s0.fr 4 ∧ q.fr 5 = s0.fr 5 ∧ q.hp ⟨0, 1, 0⟩ = s0.hp ⟨0, 1, 0⟩ ∧ q.hp ⟨0, 12, 0⟩ = .arr 1 4 83 (fil decR Z4 l k) false ∧ q.hp ⟨0, 16, 0⟩ = .arr 1 1 4 (fil (fun w => [bv (okR w)]) [bv false] l k) false) ⟨0, by simp, by omega, by simp, by simp, by simp, by simp, by simp, by simp [fil_zero, Z4], by simp [fil_zero]⟩ ?_
  rintro m ⟨fr, hp⟩ ⟨k, rfl, hk, hs6, hs1, hs4, hs5, hh1, hh12, hh16⟩
  simp at hs6 hs1 hs4 hs5 hh1 hh12 hh16
  have f1 := fil_len decR Z4 l k hk
  have f2 := fil_len (fun w => [bv (okR w)]) [bv false] l k hk
  by_cases hlt : k < l.length
  · have hg := List.getElem?_eq_getElem hlt
    have hw := wrapN (k := k) (by omega)
    have hd := d43 _ (hU _ (List.getElem_mem hlt))
    obtain ⟨w, hwl⟩ : ∃ w, l[k] = w := ⟨_, rfl⟩
    rw [hwl] at hg hd
    have hwe : ∀ h, l[k]'h = w := fun _ => hwl
    have f3 := fil_set decR Z4 l k w hg
    have f4 := fil_set (fun w => [bv (okR w)]) [bv false] l k w hg
    have f5 : ∀ h, (fil decR Z4 l k)[k]'h = [iv 0, iv 0, iv 0, iv 0] := fun h => by
      have := fil_get decR Z4 l k hlt
      rw [List.getElem?_eq_getElem (by omega)] at this
      simpa [Z4] using this
    have f6 : ∀ h, (fil (fun w => [bv (okR w)]) [bv false] l k)[k]'h = [bv false] := fun h => by
      have := fil_get (fun w => [bv (okR w)]) [bv false] l k hlt
      rw [List.getElem?_eq_getElem (by omega)] at this
      simpa using this
    obtain ⟨a, b, c, d, hde⟩ := decR_four w
    rw [hde] at hd f3
    clear hU
    generalize fil decR Z4 l k = F1 at *
    generalize fil (fun w => [bv (okR w)]) [bv false] l k = F2 at *
    have hok : ((if okR w = true then (0 : Int) else 7) == 0) = okR w := by cases okR w <;> rfl
    have hlI : (k : Int) < l.length := by omega
    repeat' (first
      | ((with_reducible first | apply Wo_u | apply Wo_n | apply ex2 | apply W_sc | apply W_c | apply Wd_u | apply Wd_n | apply ex4 | apply EndQ_ret | apply EndQ_normal); (conv => lhs; simp -implicitDefEqProofs [*]) <;> exact rfl)
      | (with_reducible first | apply Wo_nil | apply W_ss | apply W_srl | apply W_rl | apply W_sblock | apply W_block | apply W_sskip | apply W_skip | apply W_sret | apply W_ret | apply W_sexit | apply W_exit | apply thenW_n | apply thenW_r | apply thenW_e | apply inB_n | apply inB_r | apply inB_e)
      | ((with_reducible apply Wo_gt); (exact rfl); ((conv => lhs; simp -implicitDefEqProofs [*]) <;> exact rfl); (conv => lhs; simp -implicitDefEqProofs [*]) <;> exact rfl)
      | ((with_reducible apply Wo_gf); (exact rfl); ((conv => lhs; simp -implicitDefEqProofs [*]) <;> exact rfl); (exact rfl))
      | ((with_reducible apply Wo_gx); (exact rfl); ((conv => lhs; simp -implicitDefEqProofs [*]) <;> exact rfl))
      | ((with_reducible apply Wo_gsT); (exact rfl); ((conv => lhs; simp -implicitDefEqProofs [*]) <;> exact rfl))
      | ((with_reducible apply Wo_gsF); (exact rfl); ((conv => lhs; simp -implicitDefEqProofs [*]) <;> exact rfl))
      | ((with_reducible apply Wd_gsT); (exact rfl); ((conv => lhs; simp -implicitDefEqProofs [*]) <;> exact rfl))
      | ((with_reducible apply Wd_gsF); (exact rfl); ((conv => lhs; simp -implicitDefEqProofs [*]) <;> exact rfl))
      | ((with_reducible first | apply W_srdl | apply W_rdl); kernel_rfl)
      | ((with_reducible apply Wd_nil); exact rfl)
      | ((with_reducible apply inB_o); rotate_left; exact rfl)
      | (intro h h'; try simp [*, -h] at h'))
    exact ⟨_, by omega, k + 1, rfl, hlt, by simp [*], by simp [*], by simp [*], by simp [*], by simp [*], by simp [*], by simp [*]⟩
  · obtain rfl : k = l.length := by omega
    rw [fil_all] at hh12 hh16
    have q1 : (rowD l).take l.length = rowD l := List.take_of_length_le (by simp)
    have q2 : (rowK l).take l.length = rowK l := List.take_of_length_le (by simp)
    repeat' (first
      | ((with_reducible first | apply Wo_u | apply Wo_n | apply ex2 | apply W_sc | apply W_c | apply Wd_u | apply Wd_n | apply ex4 | apply EndQ_ret | apply EndQ_normal); (conv => lhs; simp -implicitDefEqProofs [*]) <;> exact rfl)
      | (with_reducible first | apply Wo_nil | apply W_ss | apply W_srl | apply W_rl | apply W_sblock | apply W_block | apply W_sskip | apply W_skip | apply W_sret | apply W_ret | apply W_sexit | apply W_exit | apply thenW_n | apply thenW_r | apply thenW_e | apply inB_n | apply inB_r | apply inB_e)
      | ((with_reducible apply Wo_gt); (exact rfl); ((conv => lhs; simp -implicitDefEqProofs [*]) <;> exact rfl); (conv => lhs; simp -implicitDefEqProofs [*]) <;> exact rfl)
      | ((with_reducible apply Wo_gf); (exact rfl); ((conv => lhs; simp -implicitDefEqProofs [*]) <;> exact rfl); (exact rfl))
      | ((with_reducible apply Wo_gx); (exact rfl); ((conv => lhs; simp -implicitDefEqProofs [*]) <;> exact rfl))
      | ((with_reducible apply Wo_gsT); (exact rfl); ((conv => lhs; simp -implicitDefEqProofs [*]) <;> exact rfl))
      | ((with_reducible apply Wo_gsF); (exact rfl); ((conv => lhs; simp -implicitDefEqProofs [*]) <;> exact rfl))
      | ((with_reducible apply Wd_gsT); (exact rfl); ((conv => lhs; simp -implicitDefEqProofs [*]) <;> exact rfl))
      | ((with_reducible apply Wd_gsF); (exact rfl); ((conv => lhs; simp -implicitDefEqProofs [*]) <;> exact rfl))
      | ((with_reducible first | apply W_srdl | apply W_rdl); kernel_rfl)
      | ((with_reducible apply Wd_nil); exact rfl)
      | ((with_reducible apply inB_o); rotate_left; exact rfl)
      | (intro h h'; try simp [*, -h] at h'))
    all_goals rfl
end Go.Proofs.YtdokejnokhicbaaGreatDoor

namespace Go.Proofs.YtdokejnokhicbaaGreatDoor
open Go Go.Ab
set_option linter.unusedSimpArgs false
set_option linter.unusedVariables false
attribute [-simp] Prog.bind getCs putCs
attribute [local simp ↓] run_bind
attribute [local simp ↓] runF_bind
attribute [local simp] run_getCsN runF_getCsN facetsC putCs_one run_putCsN
set_option maxHeartbeats 4000000 in
theorem d28 (l : List Int)  : (lim Tryz.prog E47 X47).dat 47 [.agg [.sl false 1 (rowW l), iv 0]] = some [.agg ([iv 0] ++ List.replicate 16 (uv 0) ++ [.vec 1 [], iv 0, .sc (.string ⟨#[]⟩), iv 0, iv 0])] := by
  refine fnW Tryz.func47 rfl rfl bodyOk_47 rfl rtys_47 rfl ?_
  repeat' (first
    | ((with_reducible first | apply Wo_u | apply Wo_n | apply ex2 | apply W_sc | apply W_c | apply Wd_u | apply Wd_n | apply ex4 | apply EndQ_ret | apply EndQ_normal); (conv => lhs; simp -implicitDefEqProofs [*]) <;> exact rfl)
    | (with_reducible first | apply Wo_nil | apply W_ss | apply W_srl | apply W_rl | apply W_sblock | apply W_block | apply W_sskip | apply W_skip | apply W_sret | apply W_ret | apply W_sexit | apply W_exit | apply thenW_n | apply thenW_r | apply thenW_e | apply inB_n | apply inB_r | apply inB_e)
    | ((with_reducible apply Wo_gt); (exact rfl); ((conv => lhs; simp -implicitDefEqProofs [*]) <;> exact rfl); (conv => lhs; simp -implicitDefEqProofs [*]) <;> exact rfl)
    | ((with_reducible apply Wo_gf); (exact rfl); ((conv => lhs; simp -implicitDefEqProofs [*]) <;> exact rfl); (exact rfl))
    | ((with_reducible apply Wo_gx); (exact rfl); ((conv => lhs; simp -implicitDefEqProofs [*]) <;> exact rfl))
    | ((with_reducible apply Wo_gsT); (exact rfl); ((conv => lhs; simp -implicitDefEqProofs [*]) <;> exact rfl))
    | ((with_reducible apply Wo_gsF); (exact rfl); ((conv => lhs; simp -implicitDefEqProofs [*]) <;> exact rfl))
    | ((with_reducible apply Wd_gsT); (exact rfl); ((conv => lhs; simp -implicitDefEqProofs [*]) <;> exact rfl))
    | ((with_reducible apply Wd_gsF); (exact rfl); ((conv => lhs; simp -implicitDefEqProofs [*]) <;> exact rfl))
    | ((with_reducible first | apply W_srdl | apply W_rdl); kernel_rfl)
    | ((with_reducible apply Wd_nil); exact rfl)
    | ((with_reducible apply inB_o); rotate_left; exact rfl)
    | (intro h h'; try simp [*, -h] at h'))
  all_goals rfl
end Go.Proofs.YtdokejnokhicbaaGreatDoor
