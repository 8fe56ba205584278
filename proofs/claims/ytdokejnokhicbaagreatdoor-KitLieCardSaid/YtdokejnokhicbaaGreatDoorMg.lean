/- Law 47: planting a word, walked. -/
import Derived.Test.YtdokejnokhicbaaGreatDoorM4
import Derived.Test.YtdokejnokhicbaaGreatDoorM5
import Derived.Test.YtdokejnokhicbaaGreatDoorM6
namespace Go.Proofs.YtdokejnokhicbaaGreatDoor
open Go Go.Ab
set_option linter.unusedSimpArgs false
set_option linter.unusedVariables false
theorem d22 (s : ByteArray) (hs : s.size ≤ 1048576) : (lim Tryz.prog E47 X47).dat 23 [.sc (.string s)] = some (readR s) := lim_dat.2 ⟨0, by show X47.dat 23 _ = _; simp [X47, readO, hs]⟩
def plantR (s : ByteArray) (at_ w : Int) : List AV :=
  if imgB s then (if 0 ≤ at_ ∧ at_ < (codeOf s).length then [.sc (.string (txtI ((codeOf s).set at_.toNat w) (wordAt s 8))), iv 0] else [.sc (.string ⟨#[]⟩), iv 1]) else [.sc (.string ⟨#[]⟩), iv 7]
theorem rowW_set (l : List Int) (i : Nat) (x : Int) : (rowW l).set i [uv x] = rowW (l.set i x) := by simp [List.map_set]
set_option maxHeartbeats 4000000 in
theorem d13 (s : ByteArray) (at_ w : Int) (hs : s.size ≤ 1048576) (hw : U w) : (lim Tryz.prog E47 X47).dat 10 [.sc (.string s), iv at_, uv w] = some (plantR s at_ w) := by
  refine fnW Tryz.func10 rfl rfl bodyOk_10 rfl rtys_10 rfl ?_
  have hr := d22 s hs
  unfold plantR
  unfold readR at hr
  cases hb : imgB s with
  | false =>
    rw [if_neg (by rw [hb]; simp)] at hr
    rw [if_neg (by simp)]
    clear hb
    repeat' (first
      | ((with_reducible first | apply Wo_u | apply Wo_n | apply ex2 | apply W_sc | apply W_c | apply Wd_u | apply Wd_n | apply ex4 | apply EndQ_ret | apply EndQ_normal); (conv => lhs; simp -implicitDefEqProofs [*]) <;> exact rfl)
      | (with_reducible first | apply Wo_nil | apply W_ss | apply W_srl | apply W_rl | apply W_sblock | apply W_block | apply W_sskip | apply W_skip | apply W_sret | apply W_ret | apply W_sexit | apply W_exit | apply thenW_n | apply thenW_r | apply thenW_e | apply inB_n | apply inB_r | apply inB_e)
      | ((with_reducible apply Wo_gt); (exact rfl); ((conv => lhs; simp -implicitDefEqProofs [*]) <;> exact rfl); (conv => lhs; simp -implicitDefEqProofs [*]) <;> exact rfl)
      | ((with_reducible apply Wo_gf); (exact rfl); ((conv => lhs; simp -implicitDefEqProofs [*]) <;> exact rfl); (exact rfl))
      | ((with_reducible apply Wo_gx); (exact rfl); ((conv => lhs; simp -implicitDefEqProofs [*]) <;> exact rfl))
      | ((with_reducible apply Wo_gsT); (exact rfl); ((conv => lhs; simp -implicitDefEqProofs [*]) <;> exact rfl))
      | ((with_reducible apply Wo_gsF); (exact rfl); ((conv => lhs; simp -implicitDefEqProofs [*]) <;> exact rfl))
      | ((with_reducible apply Wd_gsT); (exact rfl); ((conv => lhs; simp -implicitDefEqProofs [*]) <;> exact rfl))
      | ((with_reducible apply Wd_gsF); (exact rfl); ((conv => lhs; simp -implicitDefEqProofs [*]) <;> exact rfl))
      | ((with_reducible first | apply W_srdl | apply W_rdl); kernel_rfl)
      | ((with_reducible apply Wd_nil); exact rfl)
      | ((with_reducible apply inB_o); rotate_left; exact rfl)
      | (intro h h'; try simp [*, -h] at h'))
    all_goals rfl
  | true =>
    rw [if_pos (by rw [hb])] at hr
    rw [if_pos rfl]
    obtain ⟨hCU, hCl, hD⟩ := codeOf_U s hb
    clear hb
    generalize codeOf s = C at *
    generalize wordAt s 8 = D at *
    by_cases c1 : at_ < 0
    · rw [if_neg (by omega)]
      repeat' (first
        | ((with_reducible first | apply Wo_u | apply Wo_n | apply ex2 | apply W_sc | apply W_c | apply Wd_u | apply Wd_n | apply ex4 | apply EndQ_ret | apply EndQ_normal); (conv => lhs; simp -implicitDefEqProofs [*]) <;> exact rfl)
        | (with_reducible first | apply Wo_nil | apply W_ss | apply W_srl | apply W_rl | apply W_sblock | apply W_block | apply W_sskip | apply W_skip | apply W_sret | apply W_ret | apply W_sexit | apply W_exit | apply thenW_n | apply thenW_r | apply thenW_e | apply inB_n | apply inB_r | apply inB_e)
        | ((with_reducible apply Wo_gt); (exact rfl); ((conv => lhs; simp -implicitDefEqProofs [*]) <;> exact rfl); (conv => lhs; simp -implicitDefEqProofs [*]) <;> exact rfl)
        | ((with_reducible apply Wo_gf); (exact rfl); ((conv => lhs; simp -implicitDefEqProofs [*]) <;> exact rfl); (exact rfl))
        | ((with_reducible apply Wo_gx); (exact rfl); ((conv => lhs; simp -implicitDefEqProofs [*]) <;> exact rfl))
        | ((with_reducible apply Wo_gsT); (exact rfl); ((conv => lhs; simp -implicitDefEqProofs [*]) <;> exact rfl))
        | ((with_reducible apply Wo_gsF); (exact rfl); ((conv => lhs; simp -implicitDefEqProofs [*]) <;> exact rfl))
        | ((with_reducible apply Wd_gsT); (exact rfl); ((conv => lhs; simp -implicitDefEqProofs [*]) <;> exact rfl))
        | ((with_reducible apply Wd_gsF); (exact rfl); ((conv => lhs; simp -implicitDefEqProofs [*]) <;> exact rfl))
        | ((with_reducible first | apply W_srdl | apply W_rdl); kernel_rfl)
        | ((with_reducible apply Wd_nil); exact rfl)
        | ((with_reducible apply inB_o); rotate_left; exact rfl)
        | (intro h h'; try simp [*, -h] at h'))
      all_goals rfl
    · by_cases c2 : (C.length : Int) ≤ at_
      · rw [if_neg (by omega)]
        repeat' (first
          | ((with_reducible first | apply Wo_u | apply Wo_n | apply ex2 | apply W_sc | apply W_c | apply Wd_u | apply Wd_n | apply ex4 | apply EndQ_ret | apply EndQ_normal); (conv => lhs; simp -implicitDefEqProofs [*]) <;> exact rfl)
          | (with_reducible first | apply Wo_nil | apply W_ss | apply W_srl | apply W_rl | apply W_sblock | apply W_block | apply W_sskip | apply W_skip | apply W_sret | apply W_ret | apply W_sexit | apply W_exit | apply thenW_n | apply thenW_r | apply thenW_e | apply inB_n | apply inB_r | apply inB_e)
          | ((with_reducible apply Wo_gt); (exact rfl); ((conv => lhs; simp -implicitDefEqProofs [*]) <;> exact rfl); (conv => lhs; simp -implicitDefEqProofs [*]) <;> exact rfl)
          | ((with_reducible apply Wo_gf); (exact rfl); ((conv => lhs; simp -implicitDefEqProofs [*]) <;> exact rfl); (exact rfl))
          | ((with_reducible apply Wo_gx); (exact rfl); ((conv => lhs; simp -implicitDefEqProofs [*]) <;> exact rfl))
          | ((with_reducible apply Wo_gsT); (exact rfl); ((conv => lhs; simp -implicitDefEqProofs [*]) <;> exact rfl))
          | ((with_reducible apply Wo_gsF); (exact rfl); ((conv => lhs; simp -implicitDefEqProofs [*]) <;> exact rfl))
          | ((with_reducible apply Wd_gsT); (exact rfl); ((conv => lhs; simp -implicitDefEqProofs [*]) <;> exact rfl))
          | ((with_reducible apply Wd_gsF); (exact rfl); ((conv => lhs; simp -implicitDefEqProofs [*]) <;> exact rfl))
          | ((with_reducible first | apply W_srdl | apply W_rdl); kernel_rfl)
          | ((with_reducible apply Wd_nil); exact rfl)
          | ((with_reducible apply inB_o); rotate_left; exact rfl)
          | (intro h h'; try simp [*, -h] at h'))
        all_goals rfl
      · rw [if_pos (by omega)]
        obtain ⟨k, rfl⟩ : ∃ k : Nat, at_ = k := ⟨at_.toNat, by omega⟩
        have hk : k < C.length := by omega
        have hl1 : (C.set k w).length = C.length := by simp
        have hput := d19 (C.set k w) D (by omega) hD (fun x hx => by
          rcases List.mem_or_eq_of_mem_set hx with h | rfl
          · exact hCU x h
          · exact hw)
        have hset := rowW_set C k w
        have n1 : C.length * 4 ≤ 140737488355328 := by omega
        have n2 : C.length ≤ 9223372036854775807 := by omega
        have htk : (rowW (C.set k w)).take C.length = rowW (C.set k w) := List.take_of_length_le (by simp)
        rw [Int.toNat_natCast]
        obtain ⟨C', hC'⟩ : ∃ C', C' = C.set k w := ⟨_, rfl⟩
        rw [← hC'] at hl1 hput hset htk ⊢
        obtain ⟨RC, hRC⟩ : ∃ RC, RC = rowW C := ⟨_, rfl⟩
        have hRl : RC.length = C.length := by rw [hRC]; simp
        obtain ⟨cx, hRg⟩ : ∃ cx, ∀ h, RC[k]'h = [uv cx] := ⟨C[k], fun h => by subst hRC; simp⟩
        have hRt : RC.take C.length = RC := List.take_of_length_le (by omega)
        rw [← hRC] at hset hr
        clear hC' hRC hCU hw hs
        repeat' (first
          | ((with_reducible first | apply Wo_u | apply Wo_n | apply ex2 | apply W_sc | apply W_c | apply Wd_u | apply Wd_n | apply ex4 | apply EndQ_ret | apply EndQ_normal); (conv => lhs; simp -implicitDefEqProofs [*]) <;> exact rfl)
          | (with_reducible first | apply Wo_nil | apply W_ss | apply W_srl | apply W_rl | apply W_sblock | apply W_block | apply W_sskip | apply W_skip | apply W_sret | apply W_ret | apply W_sexit | apply W_exit | apply thenW_n | apply thenW_r | apply thenW_e | apply inB_n | apply inB_r | apply inB_e)
          | ((with_reducible apply Wo_gt); (exact rfl); ((conv => lhs; simp -implicitDefEqProofs [*]) <;> exact rfl); (conv => lhs; simp -implicitDefEqProofs [*]) <;> exact rfl)
          | ((with_reducible apply Wo_gf); (exact rfl); ((conv => lhs; simp -implicitDefEqProofs [*]) <;> exact rfl); (exact rfl))
          | ((with_reducible apply Wo_gx); (exact rfl); ((conv => lhs; simp -implicitDefEqProofs [*]) <;> exact rfl))
          | ((with_reducible apply Wo_gsT); (exact rfl); ((conv => lhs; simp -implicitDefEqProofs [*]) <;> exact rfl))
          | ((with_reducible apply Wo_gsF); (exact rfl); ((conv => lhs; simp -implicitDefEqProofs [*]) <;> exact rfl))
          | ((with_reducible apply Wd_gsT); (exact rfl); ((conv => lhs; simp -implicitDefEqProofs [*]) <;> exact rfl))
          | ((with_reducible apply Wd_gsF); (exact rfl); ((conv => lhs; simp -implicitDefEqProofs [*]) <;> exact rfl))
          | ((with_reducible first | apply W_srdl | apply W_rdl); kernel_rfl)
          | ((with_reducible apply Wd_nil); exact rfl)
          | ((with_reducible apply inB_o); rotate_left; exact rfl)
          | (intro h h'; try simp [*, -h] at h'))
        all_goals rfl
end Go.Proofs.YtdokejnokhicbaaGreatDoor
