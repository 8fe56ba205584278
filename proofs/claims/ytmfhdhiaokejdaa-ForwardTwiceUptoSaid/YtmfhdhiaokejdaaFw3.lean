/- forward.copies.set and copied, walked whole. Printed by a program (wip/tfw.py). -/
import Derived.Test.YtmfhdhiaokejdaaFw2
namespace Go.Proofs.Ytmfhdhiaokejdaa
open Go Go.Ab
set_option linter.unusedSimpArgs false
set_option linter.unusedVariables false
set_option maxHeartbeats 2000000 in
theorem t31 {c : Code} (hcode : Try.f31.body = some c) (K : Nat → Prop) (B : Base) (fr : Nat → AV) (hp : Hp) (M : MM) (g gf gt : Nat) (l : List Int) (to : List (Option Nat)) (d : Nat) (hf0 : fr 0 = .ptr nC g 0) (hf1 : fr 1 = iv d) (hc : CS hp g gf gt l to) (hk : CpOk M l to) (hd : d < l.length) :
    T Try.prog 1 Try.f31.ntmps K B c ⟨fr, hp⟩ M (Post31 hp g gf gt l d) := by
  have hb := t31b (c0 := _) (c := _) rfl K B
  cases hcode
  obtain ⟨h1, h2, h3⟩ := hc
  obtain ⟨s, hs⟩ : ∃ s, l[d]? = some s := ⟨_, List.getElem?_eq_getElem hd⟩
  have hg1 : (rowsF l)[d]? = some [iv s] := by rw [rowsF_get, hs]; rfl
  refine T_seq (T_seq ?_)
  refine T_ord mixed0 E0_law call0_ok (by kernel_rfl) ?_
  repeat' (first
    | ((with_reducible apply Wo_u); (conv => lhs; simp -implicitDefEqProofs [*]) <;> exact rfl)
    | ((with_reducible apply Wo_n); (conv => lhs; simp -implicitDefEqProofs [*]) <;> exact rfl)
    | (with_reducible apply Wo_nil)
    | ((with_reducible apply Wo_gt); (exact rfl); ((conv => lhs; simp -implicitDefEqProofs [*]) <;> exact rfl); (conv => lhs; simp -implicitDefEqProofs [*]) <;> exact rfl)
    | ((with_reducible apply Wo_gf); (exact rfl); ((conv => lhs; simp -implicitDefEqProofs [*]) <;> exact rfl); (exact rfl))
    | ((with_reducible apply Wo_gx); (exact rfl); ((conv => lhs; simp -implicitDefEqProofs [*]) <;> exact rfl))
    | ((with_reducible apply Wo_gsT); (exact rfl); ((conv => lhs; simp -implicitDefEqProofs [*]) <;> exact rfl))
    | ((with_reducible apply Wo_gsF); (exact rfl); ((conv => lhs; simp -implicitDefEqProofs [*]) <;> exact rfl))
    | ((with_reducible apply ex2); (conv => lhs; simp -implicitDefEqProofs [*]) <;> exact rfl)
    | (with_reducible apply W_ss) | (with_reducible apply W_srl) | (with_reducible apply W_rl)
    | ((with_reducible apply W_srdl); kernel_rfl) | ((with_reducible apply W_rdl); kernel_rfl)
    | ((with_reducible apply Wd_u); (conv => lhs; simp -implicitDefEqProofs [*]) <;> exact rfl)
    | ((with_reducible apply Wd_n); (conv => lhs; simp -implicitDefEqProofs [*]) <;> exact rfl)
    | ((with_reducible apply Wd_nil); exact rfl)
    | ((with_reducible apply Wd_gsT); (exact rfl); ((conv => lhs; simp -implicitDefEqProofs [*]) <;> exact rfl))
    | ((with_reducible apply Wd_gsF); (exact rfl); ((conv => lhs; simp -implicitDefEqProofs [*]) <;> exact rfl))
    | ((with_reducible apply ex4); (conv => lhs; simp -implicitDefEqProofs [*]) <;> exact rfl)
    | (with_reducible apply W_sblock) | (with_reducible apply W_block) | (with_reducible apply W_sskip) | (with_reducible apply W_skip) | (with_reducible apply W_sret) | (with_reducible apply W_ret) | (with_reducible apply W_sexit) | (with_reducible apply W_exit)
    | (with_reducible apply thenW_n) | (with_reducible apply thenW_r) | (with_reducible apply thenW_e) | (with_reducible apply inB_n) | (with_reducible apply inB_r) | (with_reducible apply inB_e) | ((with_reducible apply inB_o); rotate_left; exact rfl)
    | ((with_reducible apply EndQ_ret); (conv => lhs; simp -implicitDefEqProofs [*]) <;> exact rfl) | ((with_reducible apply EndQ_normal); (conv => lhs; simp -implicitDefEqProofs [*]) <;> exact rfl)
    | (with_reducible apply thenT_n) | (with_reducible apply thenT_r) | (with_reducible apply thenT_e))
  refine T_seq ?_
  refine T_ord mixed0 E0_law call0_ok (by kernel_rfl) ?_
  repeat' (first
    | ((with_reducible apply Wo_u); (conv => lhs; simp -implicitDefEqProofs [*]) <;> exact rfl)
    | ((with_reducible apply Wo_n); (conv => lhs; simp -implicitDefEqProofs [*]) <;> exact rfl)
    | (with_reducible apply Wo_nil)
    | ((with_reducible apply Wo_gt); (exact rfl); ((conv => lhs; simp -implicitDefEqProofs [*]) <;> exact rfl); (conv => lhs; simp -implicitDefEqProofs [*]) <;> exact rfl)
    | ((with_reducible apply Wo_gf); (exact rfl); ((conv => lhs; simp -implicitDefEqProofs [*]) <;> exact rfl); (exact rfl))
    | ((with_reducible apply Wo_gx); (exact rfl); ((conv => lhs; simp -implicitDefEqProofs [*]) <;> exact rfl))
    | ((with_reducible apply Wo_gsT); (exact rfl); ((conv => lhs; simp -implicitDefEqProofs [*]) <;> exact rfl))
    | ((with_reducible apply Wo_gsF); (exact rfl); ((conv => lhs; simp -implicitDefEqProofs [*]) <;> exact rfl))
    | ((with_reducible apply ex2); (conv => lhs; simp -implicitDefEqProofs [*]) <;> exact rfl)
    | (with_reducible apply W_ss) | (with_reducible apply W_srl) | (with_reducible apply W_rl)
    | ((with_reducible apply W_srdl); kernel_rfl) | ((with_reducible apply W_rdl); kernel_rfl)
    | ((with_reducible apply Wd_u); (conv => lhs; simp -implicitDefEqProofs [*]) <;> exact rfl)
    | ((with_reducible apply Wd_n); (conv => lhs; simp -implicitDefEqProofs [*]) <;> exact rfl)
    | ((with_reducible apply Wd_nil); exact rfl)
    | ((with_reducible apply Wd_gsT); (exact rfl); ((conv => lhs; simp -implicitDefEqProofs [*]) <;> exact rfl))
    | ((with_reducible apply Wd_gsF); (exact rfl); ((conv => lhs; simp -implicitDefEqProofs [*]) <;> exact rfl))
    | ((with_reducible apply ex4); (conv => lhs; simp -implicitDefEqProofs [*]) <;> exact rfl)
    | (with_reducible apply W_sblock) | (with_reducible apply W_block) | (with_reducible apply W_sskip) | (with_reducible apply W_skip) | (with_reducible apply W_sret) | (with_reducible apply W_ret) | (with_reducible apply W_sexit) | (with_reducible apply W_exit)
    | (with_reducible apply thenW_n) | (with_reducible apply thenW_r) | (with_reducible apply thenW_e) | (with_reducible apply inB_n) | (with_reducible apply inB_r) | (with_reducible apply inB_e) | ((with_reducible apply inB_o); rotate_left; exact rfl)
    | ((with_reducible apply EndQ_ret); (conv => lhs; simp -implicitDefEqProofs [*]) <;> exact rfl) | ((with_reducible apply EndQ_normal); (conv => lhs; simp -implicitDefEqProofs [*]) <;> exact rfl)
    | (with_reducible apply thenT_n) | (with_reducible apply thenT_r) | (with_reducible apply thenT_e))
  by_cases hsd : s = (d : Int)
  · subst hsd
    refine T_cf (by simp) (T_skip ?_)
    repeat (first | (with_reducible apply thenT_e) | (with_reducible apply thenT_r) | (with_reducible apply inT_e) | (with_reducible apply inT_n) | (with_reducible apply thenT_n))
    exact hb _ hp hp M g gf gt l to d (by simp [hf0]) (by simp [hf1]) ⟨h1, h2, h3⟩ hk hs (fun y _ _ => rfl)
  · have hsr := hk.rng d s hs
    obtain ⟨sn, rfl⟩ : ∃ sn : Nat, s = sn := ⟨s.toNat, by omega⟩
    have hsn : sn < to.length := by rw [hk.len]; omega
    have hne : sn ≠ d := fun e => hsd (by rw [e])
    obtain ⟨ms, hms⟩ : ∃ m, to[sn]? = some m := ⟨_, List.getElem?_eq_getElem hsn⟩
    cases ms with
    | none => exact (hne (hk.nil sn hms d hs).symm).elim
    | some b =>
      obtain ⟨es, clock, S, hMb, hok, hnd, hmem⟩ := hk.map sn b hms
      have hin : (d : Int) ∈ S := (hmem d).2 ⟨d, rfl, hs, fun e => hne e.symm⟩
      have hg2 : (rowsT to)[sn]? = some [.sc (.map (some b))] := by rw [rowsT_get, hms]; rfl
      refine T_ct (by simp [hsd]) ?_
      refine T_seq (T_region ?_)
      repeat' (first
        | ((with_reducible apply To_u E0_law call0_ok); ((conv => lhs; simp -implicitDefEqProofs [*]) <;> exact rfl); (decide))
        | ((with_reducible apply To_n E0_law call0_ok); ((conv => lhs; simp -implicitDefEqProofs [*]) <;> exact rfl))
        | (with_reducible apply To_nil) | (with_reducible apply thenT_n) | (with_reducible apply thenT_r) | (with_reducible apply thenT_e))
      refine To_delete Try.underlying78 Try.underlying3 (by simp) (by simp) hMb hok hin fun j es' hj hok' => ?_
      refine To_nil (thenT_n ?_)
      have hown := hk.own hs hne hms hMb hok hnd hmem hj hok'
      refine T_ord mixed0 E0_law call0_ok (by kernel_rfl) ?_
      repeat' (first
        | ((with_reducible apply Wo_u); (conv => lhs; simp -implicitDefEqProofs [*]) <;> exact rfl)
        | ((with_reducible apply Wo_n); (conv => lhs; simp -implicitDefEqProofs [*]) <;> exact rfl)
        | (with_reducible apply Wo_nil)
        | ((with_reducible apply Wo_gt); (exact rfl); ((conv => lhs; simp -implicitDefEqProofs [*]) <;> exact rfl); (conv => lhs; simp -implicitDefEqProofs [*]) <;> exact rfl)
        | ((with_reducible apply Wo_gf); (exact rfl); ((conv => lhs; simp -implicitDefEqProofs [*]) <;> exact rfl); (exact rfl))
        | ((with_reducible apply Wo_gx); (exact rfl); ((conv => lhs; simp -implicitDefEqProofs [*]) <;> exact rfl))
        | ((with_reducible apply Wo_gsT); (exact rfl); ((conv => lhs; simp -implicitDefEqProofs [*]) <;> exact rfl))
        | ((with_reducible apply Wo_gsF); (exact rfl); ((conv => lhs; simp -implicitDefEqProofs [*]) <;> exact rfl))
        | ((with_reducible apply ex2); (conv => lhs; simp -implicitDefEqProofs [*]) <;> exact rfl)
        | (with_reducible apply W_ss) | (with_reducible apply W_srl) | (with_reducible apply W_rl)
        | ((with_reducible apply W_srdl); kernel_rfl) | ((with_reducible apply W_rdl); kernel_rfl)
        | ((with_reducible apply Wd_u); (conv => lhs; simp -implicitDefEqProofs [*]) <;> exact rfl)
        | ((with_reducible apply Wd_n); (conv => lhs; simp -implicitDefEqProofs [*]) <;> exact rfl)
        | ((with_reducible apply Wd_nil); exact rfl)
        | ((with_reducible apply Wd_gsT); (exact rfl); ((conv => lhs; simp -implicitDefEqProofs [*]) <;> exact rfl))
        | ((with_reducible apply Wd_gsF); (exact rfl); ((conv => lhs; simp -implicitDefEqProofs [*]) <;> exact rfl))
        | ((with_reducible apply ex4); (conv => lhs; simp -implicitDefEqProofs [*]) <;> exact rfl)
        | (with_reducible apply W_sblock) | (with_reducible apply W_block) | (with_reducible apply W_sskip) | (with_reducible apply W_skip) | (with_reducible apply W_sret) | (with_reducible apply W_ret) | (with_reducible apply W_sexit) | (with_reducible apply W_exit)
        | (with_reducible apply thenW_n) | (with_reducible apply thenW_r) | (with_reducible apply thenW_e) | (with_reducible apply inB_n) | (with_reducible apply inB_r) | (with_reducible apply inB_e) | ((with_reducible apply inB_o); rotate_left; exact rfl)
        | ((with_reducible apply EndQ_ret); (conv => lhs; simp -implicitDefEqProofs [*]) <;> exact rfl) | ((with_reducible apply EndQ_normal); (conv => lhs; simp -implicitDefEqProofs [*]) <;> exact rfl)
        | (with_reducible apply thenT_n) | (with_reducible apply thenT_r) | (with_reducible apply thenT_e))
      refine (hb _ hp _ _ g gf gt (l.set d d) to d (by simp [hf0]) (by simp [hf1]) ⟨by simp [*], by simp [rowsF_set], by simp [*]⟩ hown (by simp [hd]) (fun y hy1 hy2 => by simp [hy1])).mono fun e st' M' hpost => ?_
      unfold Post31 at hpost ⊢
      rw [forget_set] at hpost
      exact hpost
end Go.Proofs.Ytmfhdhiaokejdaa
