/- Law 47: roots, walked. -/
import Derived.Test.YtdokejnokhicbaaGreatDoorP3
import Derived.Test.YtdokejnokhicbaaGreatDoorMh
namespace Go.Proofs.YtdokejnokhicbaaGreatDoor
open Go Go.Ab
set_option linter.unusedSimpArgs false
set_option linter.unusedVariables false
attribute [-simp] Prog.bind getCs putCs
attribute [local simp ↓] run_bind
attribute [local simp ↓] runF_bind
attribute [local simp] run_getCsN runF_getCsN facetsC putCs_one run_putCsN runF_putCsN facetsW facetsH
def halfF (n : Nat) : Nat → Nat → Nat
  | 0, k => k
  | f + 1, k => if 2 * k < n then halfF n f (2 * k) else k
def halfP (n : Nat) : Nat := halfF n n 1
theorem halfF_lt (n : Nat) : ∀ f k, 1 ≤ k → k < n → 1 ≤ halfF n f k ∧ halfF n f k < n
  | 0, k, h1, h2 => ⟨h1, h2⟩
  | f + 1, k, h1, h2 => by
    unfold halfF
    split
    · exact halfF_lt n f (2 * k) (by omega) (by omega)
    · exact ⟨h1, h2⟩
theorem halfP_lt {n : Nat} (h : 2 ≤ n) : 1 ≤ halfP n ∧ halfP n < n := halfF_lt n n 1 (by omega) (by omega)
/-- The root of a list. -/
def rootF : Nat → List D4 → D4
  | 0, _ => ⟨0, 0, 0, 0⟩
  | f + 1, l => match l with
    | [] => ofP ⟨#[]⟩
    | [d] => d
    | l => pairP (rootF f (l.take (halfP l.length))) (rootF f (l.drop (halfP l.length)))
def rootP (l : List D4) : D4 := rootF (l.length + 1) l
theorem rootF_two (f : Nat) (l : List D4) (h : 2 ≤ l.length) : rootF (f + 1) l = pairP (rootF f (l.take (halfP l.length))) (rootF f (l.drop (halfP l.length))) := by
  match l, h with
  | a :: b :: r, _ => rfl
theorem rootF_more : ∀ (f g : Nat) (l : List D4), l.length < f → l.length < g → rootF f l = rootF g l
  | 0, g, l, h, _ => by omega
  | f + 1, 0, l, _, h => by omega
  | f + 1, g + 1, l, h1, h2 => by
    by_cases h : 2 ≤ l.length
    · have hh := halfP_lt h
      rw [rootF_two f l h, rootF_two g l h, rootF_more f g _ (by rw [List.length_take]; omega) (by rw [List.length_take]; omega), rootF_more f g _ (by rw [List.length_drop]; omega) (by rw [List.length_drop]; omega)]
    · match l, h with
      | [], _ => rfl
      | [a], _ => rfl
      | a :: b :: r, h => simp at h
theorem rootP_two (l : List D4) (h : 2 ≤ l.length) : rootP l = pairP (rootP (l.take (halfP l.length))) (rootP (l.drop (halfP l.length))) := by
  have hh := halfP_lt h
  unfold rootP
  rw [rootF_two _ l h, rootF_more l.length ((l.take (halfP l.length)).length + 1) _ (by rw [List.length_take]; omega) (by omega), rootF_more l.length ((l.drop (halfP l.length)).length + 1) _ (by rw [List.length_drop]; omega) (by omega)]
abbrev rowG (l : List D4) : List (List AV) := l.map D4.row
theorem rowG_snoc (l : List D4) (d : D4) : rowG l ++ [[uv d.d0, uv d.d1, uv d.d2, uv d.d3]] = rowG (l ++ [d]) := by simp [D4.row]
set_option maxHeartbeats 4000000 in
theorem e46 (n : Nat) (h : 1 ≤ n) (hn : n ≤ 1048576) : (lim Tryz.prog E47 X47).dat 54 [iv n] = some [iv (halfP n)] := by
  refine fnW Tryz.func54 rfl rfl bodyOk_54 rfl rtys_54 rfl ?_
  repeat' (first
    | ((with_reducible first | apply Wo_u | apply Wo_n | apply ex2 | apply W_sc | apply W_c | apply Wd_u | apply Wd_n | apply ex4 | apply EndQ_ret | apply EndQ_normal); (conv => lhs; simp -implicitDefEqProofs [*]) <;> exact rfl)
    | (with_reducible first | apply Wo_nil | apply W_ss | apply W_srl | apply W_rl | apply W_sblock | apply W_block | apply W_sskip | apply W_skip | apply W_sret | apply W_ret | apply W_sexit | apply W_exit | apply thenW_n | apply thenW_r | apply thenW_e | apply inB_n | apply inB_r | apply inB_e)
    | ((with_reducible apply Wo_gt); (exact rfl); ((conv => lhs; simp -implicitDefEqProofs [*]) <;> exact rfl); (conv => lhs; simp -implicitDefEqProofs [*]) <;> exact rfl)
    | ((with_reducible apply Wo_gf); (exact rfl); ((conv => lhs; simp -implicitDefEqProofs [*]) <;> exact rfl); (exact rfl))
    | ((with_reducible apply Wo_gx); (exact rfl); ((conv => lhs; simp -implicitDefEqProofs [*]) <;> exact rfl))
    | ((with_reducible apply Wo_gsT); (exact rfl); ((conv => lhs; simp -implicitDefEqProofs [*]) <;> exact rfl))
    | ((with_reducible apply Wo_gsF); (exact rfl); ((conv => lhs; simp -implicitDefEqProofs [*]) <;> exact rfl))
    | ((with_reducible apply Wd_gsT); (exact rfl); ((conv => lhs; simp -implicitDefEqProofs [*]) <;> exact rfl))
    | ((with_reducible apply Wd_gsF); (exact rfl); ((conv => lhs; simp -implicitDefEqProofs [*]) <;> exact rfl))
    | ((with_reducible first | apply W_srdl | apply W_rdl); kernel_rfl)
    | ((with_reducible apply Wd_nil); exact rfl)
    | ((with_reducible apply inB_o); rotate_left; exact rfl)
    | (intro h h'; try simp [*, -h] at h'))
  refine W_loopS (n := n) (fun s0 m q => ∃ k : Nat, q.fr 3 = iv k ∧ halfF n m k = halfP n ∧ n + 1 ≤ k + m ∧ 1 ≤ k ∧ k ≤ 2 * n ∧ q.fr 0 = s0.fr 0) ⟨1, by simp, rfl, by omega, by omega, by omega, by simp⟩ ?_
  rintro m ⟨fr, hp⟩ ⟨k, hs3, hf, hm, hk, hkn, hs0⟩
  simp at hs3 hs0
  have w1 : IntKind.i64.wrap ((n : Int) - k) = (n : Int) - k := wrap64 (by omega) (by omega)
  have w2 : IntKind.i64.wrap ((k : Int) * 2) = ((2 * k : Nat) : Int) := by rw [wrap64 (by omega) (by omega)]; omega
  by_cases hlt : 2 * k < n
  · have hlI : (k : Int) < (n : Int) - k := by omega
    obtain ⟨m', rfl⟩ : ∃ m', m = m' + 1 := ⟨m - 1, by omega⟩
    unfold halfF at hf
    rw [if_pos hlt] at hf
    obtain ⟨k', hk'⟩ : ∃ k', k' = 2 * k := ⟨_, rfl⟩
    rw [← hk'] at hf w2
    have hH := Lib.hid (⟨hf, hm, hk, hkn, hk', hlt⟩ : _ ∧ _ ∧ _ ∧ _ ∧ _ ∧ _)
    clear hf hk' hlt
    repeat' (first
      | ((with_reducible first | apply Wo_u | apply Wo_n | apply ex2 | apply W_sc | apply W_c | apply Wd_u | apply Wd_n | apply ex4 | apply EndQ_ret | apply EndQ_normal); (conv => lhs; simp -implicitDefEqProofs [*]) <;> exact rfl)
      | (with_reducible first | apply Wo_nil | apply W_ss | apply W_srl | apply W_rl | apply W_sblock | apply W_block | apply W_sskip | apply W_skip | apply W_sret | apply W_ret | apply W_sexit | apply W_exit | apply thenW_n | apply thenW_r | apply thenW_e | apply inB_n | apply inB_r | apply inB_e)
      | ((with_reducible apply Wo_gt); (exact rfl); ((conv => lhs; simp -implicitDefEqProofs [*]) <;> exact rfl); (conv => lhs; simp -implicitDefEqProofs [*]) <;> exact rfl)
      | ((with_reducible apply Wo_gf); (exact rfl); ((conv => lhs; simp -implicitDefEqProofs [*]) <;> exact rfl); (exact rfl))
      | ((with_reducible apply Wo_gx); (exact rfl); ((conv => lhs; simp -implicitDefEqProofs [*]) <;> exact rfl))
      | ((with_reducible apply Wo_gsT); (exact rfl); ((conv => lhs; simp -implicitDefEqProofs [*]) <;> exact rfl))
      | ((with_reducible apply Wo_gsF); (exact rfl); ((conv => lhs; simp -implicitDefEqProofs [*]) <;> exact rfl))
      | ((with_reducible apply Wd_gsT); (exact rfl); ((conv => lhs; simp -implicitDefEqProofs [*]) <;> exact rfl))
      | ((with_reducible apply Wd_gsF); (exact rfl); ((conv => lhs; simp -implicitDefEqProofs [*]) <;> exact rfl))
      | ((with_reducible first | apply W_srdl | apply W_rdl); kernel_rfl)
      | ((with_reducible apply Wd_nil); exact rfl)
      | ((with_reducible apply inB_o); rotate_left; exact rfl)
      | (intro h h'; try simp [*, -h] at h'))
    all_goals exact ⟨m', by omega, k', by simp [*], hH.out.1, by have := hH.out.2; omega, by have := hH.out.2; omega, by have := hH.out.2; omega, by simp [*]⟩
  · have hlI : ¬ (k : Int) < (n : Int) - k := by omega
    have he : halfP n = k := by
      rw [← hf]
      cases m with
      | zero => rfl
      | succ m => unfold halfF; rw [if_neg hlt]
    rw [he]
    clear hf he hlt
    repeat' (first
      | ((with_reducible first | apply Wo_u | apply Wo_n | apply ex2 | apply W_sc | apply W_c | apply Wd_u | apply Wd_n | apply ex4 | apply EndQ_ret | apply EndQ_normal); (conv => lhs; simp -implicitDefEqProofs [*]) <;> exact rfl)
      | (with_reducible first | apply Wo_nil | apply W_ss | apply W_srl | apply W_rl | apply W_sblock | apply W_block | apply W_sskip | apply W_skip | apply W_sret | apply W_ret | apply W_sexit | apply W_exit | apply thenW_n | apply thenW_r | apply thenW_e | apply inB_n | apply inB_r | apply inB_e)
      | ((with_reducible apply Wo_gt); (exact rfl); ((conv => lhs; simp -implicitDefEqProofs [*]) <;> exact rfl); (conv => lhs; simp -implicitDefEqProofs [*]) <;> exact rfl)
      | ((with_reducible apply Wo_gf); (exact rfl); ((conv => lhs; simp -implicitDefEqProofs [*]) <;> exact rfl); (exact rfl))
      | ((with_reducible apply Wo_gx); (exact rfl); ((conv => lhs; simp -implicitDefEqProofs [*]) <;> exact rfl))
      | ((with_reducible apply Wo_gsT); (exact rfl); ((conv => lhs; simp -implicitDefEqProofs [*]) <;> exact rfl))
      | ((with_reducible apply Wo_gsF); (exact rfl); ((conv => lhs; simp -implicitDefEqProofs [*]) <;> exact rfl))
      | ((with_reducible apply Wd_gsT); (exact rfl); ((conv => lhs; simp -implicitDefEqProofs [*]) <;> exact rfl))
      | ((with_reducible apply Wd_gsF); (exact rfl); ((conv => lhs; simp -implicitDefEqProofs [*]) <;> exact rfl))
      | ((with_reducible first | apply W_srdl | apply W_rdl); kernel_rfl)
      | ((with_reducible apply Wd_nil); exact rfl)
      | ((with_reducible apply inB_o); rotate_left; exact rfl)
      | (intro h h'; try simp [*, -h] at h'))
    all_goals rfl
set_option maxHeartbeats 8000000 in
theorem e28 : ∀ (N : Nat) (l : List D4), l.length ≤ N → l.length ≤ 1048576 → (lim Tryz.prog E47 X47).dat 31 [.sl false 4 (rowG l)] = some [.agg (rootP l).row] := by
  intro N
  induction N with
  | zero =>
    intro l h hl
    obtain rfl : l = [] := List.eq_nil_of_length_eq_zero (by omega)
    refine fnW Tryz.func31 rfl rfl bodyOk_31 rfl rtys_31 rfl ?_
    have h34 := e34 ⟨#[]⟩ (by decide)
    have hr : rootP [] = ofP ⟨#[]⟩ := rfl
    rw [hr]
    generalize ofP ⟨#[]⟩ = y at *
    obtain ⟨y0, y1, y2, y3⟩ := y
    simp only [D4.row] at h34 ⊢
    repeat' (first
      | ((with_reducible first | apply Wo_u | apply Wo_n | apply ex2 | apply W_sc | apply W_c | apply Wd_u | apply Wd_n | apply ex4 | apply EndQ_ret | apply EndQ_normal); (conv => lhs; simp -implicitDefEqProofs [*]) <;> exact rfl)
      | (with_reducible first | apply Wo_nil | apply W_ss | apply W_srl | apply W_rl | apply W_sblock | apply W_block | apply W_sskip | apply W_skip | apply W_sret | apply W_ret | apply W_sexit | apply W_exit | apply thenW_n | apply thenW_r | apply thenW_e | apply inB_n | apply inB_r | apply inB_e)
      | ((with_reducible apply Wo_gt); (exact rfl); ((conv => lhs; simp -implicitDefEqProofs [*]) <;> exact rfl); (conv => lhs; simp -implicitDefEqProofs [*]) <;> exact rfl)
      | ((with_reducible apply Wo_gf); (exact rfl); ((conv => lhs; simp -implicitDefEqProofs [*]) <;> exact rfl); (exact rfl))
      | ((with_reducible apply Wo_gx); (exact rfl); ((conv => lhs; simp -implicitDefEqProofs [*]) <;> exact rfl))
      | ((with_reducible apply Wo_gsT); (exact rfl); ((conv => lhs; simp -implicitDefEqProofs [*]) <;> exact rfl))
      | ((with_reducible apply Wo_gsF); (exact rfl); ((conv => lhs; simp -implicitDefEqProofs [*]) <;> exact rfl))
      | ((with_reducible apply Wd_gsT); (exact rfl); ((conv => lhs; simp -implicitDefEqProofs [*]) <;> exact rfl))
      | ((with_reducible apply Wd_gsF); (exact rfl); ((conv => lhs; simp -implicitDefEqProofs [*]) <;> exact rfl))
      | ((with_reducible first | apply W_srdl | apply W_rdl); kernel_rfl)
      | ((with_reducible apply Wd_nil); exact rfl)
      | ((with_reducible apply inB_o); rotate_left; exact rfl)
      | (intro h h'; try simp [*, -h] at h'))
    all_goals rfl
  | succ N ih =>
    intro l h hl
    by_cases h2 : 2 ≤ l.length
    · refine fnW Tryz.func31 rfl rfl bodyOk_31 rfl rtys_31 rfl ?_
      have hh := halfP_lt h2
      have h46 := e46 l.length (by omega) (by omega)
      have i1 := ih (l.take (halfP l.length)) (by rw [List.length_take]; omega) (by rw [List.length_take]; omega)
      have i2 := ih (l.drop (halfP l.length)) (by rw [List.length_drop]; omega) (by rw [List.length_drop]; omega)
      have h33 := e33 (rootP (l.take (halfP l.length))) (rootP (l.drop (halfP l.length)))
      rw [rootP_two l h2]
      have e1 : rowG (l.take (halfP l.length)) = (rowG l).take (halfP l.length) := List.map_take
      have e2 : rowG (l.drop (halfP l.length)) = (rowG l).drop (halfP l.length) := List.map_drop
      rw [e1] at i1
      rw [e2] at i2
      have hRl : (rowG l).length = l.length := by simp
      have c0 : ¬ (l.length : Int) = 0 := by omega
      have c1 : ¬ (l.length : Int) = 1 := by omega
      have c0' : ¬ l.length = 0 := by omega
      have c1' : ¬ l.length = 1 := by omega
      have c2 : halfP l.length ≤ l.length := by omega
      have hRt : (rowG l).take l.length = rowG l := List.take_of_length_le (by omega)
      have hRK := Lib.hid (⟨h2, hh⟩ : _ ∧ _)
      clear e1 e2 ih h h2 hh
      generalize rootP (l.take (halfP l.length)) = a at *
      generalize rootP (l.drop (halfP l.length)) = b at *
      generalize pairP a b = y at *
      obtain ⟨a0, a1, a2, a3⟩ := a
      obtain ⟨b0, b1, b2, b3⟩ := b
      obtain ⟨y0, y1, y2, y3⟩ := y
      simp only [D4.row] at i1 i2 h33 ⊢
      generalize hRR : rowG l = RG at *
      clear hRR
      generalize halfP l.length = hf at *
      have c3 : min hf l.length = hf := by omega
      generalize l.length = n at *
      repeat' (first
        | ((with_reducible first | apply Wo_u | apply Wo_n | apply ex2 | apply W_sc | apply W_c | apply Wd_u | apply Wd_n | apply ex4 | apply EndQ_ret | apply EndQ_normal); (conv => lhs; simp -implicitDefEqProofs [*]) <;> exact rfl)
        | (with_reducible first | apply Wo_nil | apply W_ss | apply W_srl | apply W_rl | apply W_sblock | apply W_block | apply W_sskip | apply W_skip | apply W_sret | apply W_ret | apply W_sexit | apply W_exit | apply thenW_n | apply thenW_r | apply thenW_e | apply inB_n | apply inB_r | apply inB_e)
        | ((with_reducible apply Wo_gt); (exact rfl); ((conv => lhs; simp -implicitDefEqProofs [*]) <;> exact rfl); (conv => lhs; simp -implicitDefEqProofs [*]) <;> exact rfl)
        | ((with_reducible apply Wo_gf); (exact rfl); ((conv => lhs; simp -implicitDefEqProofs [*]) <;> exact rfl); (exact rfl))
        | ((with_reducible apply Wo_gx); (exact rfl); ((conv => lhs; simp -implicitDefEqProofs [*]) <;> exact rfl))
        | ((with_reducible apply Wo_gsT); (exact rfl); ((conv => lhs; simp -implicitDefEqProofs [*]) <;> exact rfl))
        | ((with_reducible apply Wo_gsF); (exact rfl); ((conv => lhs; simp -implicitDefEqProofs [*]) <;> exact rfl))
        | ((with_reducible apply Wd_gsT); (exact rfl); ((conv => lhs; simp -implicitDefEqProofs [*]) <;> exact rfl))
        | ((with_reducible apply Wd_gsF); (exact rfl); ((conv => lhs; simp -implicitDefEqProofs [*]) <;> exact rfl))
        | ((with_reducible first | apply W_srdl | apply W_rdl); kernel_rfl)
        | ((with_reducible apply Wd_nil); exact rfl)
        | ((with_reducible apply inB_o); rotate_left; exact rfl)
        | (intro h h'; try simp [*, -h] at h'))
      all_goals rfl
    · by_cases h1 : l.length = 1
      · obtain ⟨d, rfl⟩ : ∃ d, l = [d] := List.length_eq_one_iff.1 h1
        refine fnW Tryz.func31 rfl rfl bodyOk_31 rfl rtys_31 rfl ?_
        have hr : rootP [d] = d := rfl
        rw [hr]
        obtain ⟨y0, y1, y2, y3⟩ := d
        clear h h1 h2 hl ih
        simp only [rowG, List.map_cons, List.map_nil, D4.row]
        repeat' (first
          | ((with_reducible first | apply Wo_u | apply Wo_n | apply ex2 | apply W_sc | apply W_c | apply Wd_u | apply Wd_n | apply ex4 | apply EndQ_ret | apply EndQ_normal); (conv => lhs; simp -implicitDefEqProofs [*]) <;> exact rfl)
          | (with_reducible first | apply Wo_nil | apply W_ss | apply W_srl | apply W_rl | apply W_sblock | apply W_block | apply W_sskip | apply W_skip | apply W_sret | apply W_ret | apply W_sexit | apply W_exit | apply thenW_n | apply thenW_r | apply thenW_e | apply inB_n | apply inB_r | apply inB_e)
          | ((with_reducible apply Wo_gt); (exact rfl); ((conv => lhs; simp -implicitDefEqProofs [*]) <;> exact rfl); (conv => lhs; simp -implicitDefEqProofs [*]) <;> exact rfl)
          | ((with_reducible apply Wo_gf); (exact rfl); ((conv => lhs; simp -implicitDefEqProofs [*]) <;> exact rfl); (exact rfl))
          | ((with_reducible apply Wo_gx); (exact rfl); ((conv => lhs; simp -implicitDefEqProofs [*]) <;> exact rfl))
          | ((with_reducible apply Wo_gsT); (exact rfl); ((conv => lhs; simp -implicitDefEqProofs [*]) <;> exact rfl))
          | ((with_reducible apply Wo_gsF); (exact rfl); ((conv => lhs; simp -implicitDefEqProofs [*]) <;> exact rfl))
          | ((with_reducible apply Wd_gsT); (exact rfl); ((conv => lhs; simp -implicitDefEqProofs [*]) <;> exact rfl))
          | ((with_reducible apply Wd_gsF); (exact rfl); ((conv => lhs; simp -implicitDefEqProofs [*]) <;> exact rfl))
          | ((with_reducible first | apply W_srdl | apply W_rdl); kernel_rfl)
          | ((with_reducible apply Wd_nil); exact rfl)
          | ((with_reducible apply inB_o); rotate_left; exact rfl)
          | (intro h h'; try simp [*, -h] at h'))
        all_goals rfl
      · exact ih l (by omega) hl
end Go.Proofs.YtdokejnokhicbaaGreatDoor
