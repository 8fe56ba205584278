/- Law 31: forward.Of. Printed by a program (wip/t31.py). -/
import Derived.Test.YtmfhdhiaokejdaaG31
import Derived.Test.YtmfhdhiaokejdaaD31b
import Derived.Test.YtmfhdhiaokejdaaEq
import Derived.Lib.Hide
namespace Go.Proofs.Ytmfhdhiaokejdaa
open Go Go.Ab
set_option linter.unusedSimpArgs false
set_option linter.unusedVariables false
theorem one_okR {f : Fn} {number words : Int} (h : oneB f number words = true) : 0 ≤ f.regs ∧ f.regs ≤ 4000 ∧ 0 < f.blocks.length ∧ ∀ b ∈ f.blocks, b.okR f.regs.toNat := by
  unfold oneB at h
  simp only [Bool.and_eq_true, decide_eq_true_eq, List.all_eq_true] at h
  obtain ⟨⟨⟨h1, h2⟩, h3⟩, h4⟩ := h
  refine ⟨h1, h2, h3, fun b hb => ?_⟩
  have := h4 b hb
  unfold okBlk at this
  simp only [Bool.and_eq_true, List.all_eq_true] at this
  obtain ⟨he, hi⟩ := this
  have en : ((f.regs.toNat : Nat) : Int) = f.regs := Int.toNat_of_nonneg h1
  refine ⟨fun t ht => ?_, fun hen => ?_⟩
  · have ht := hi t ht
    unfold Tac.fitsB fitsB at ht
    simp only [Bool.and_eq_true, Bool.or_eq_true, Bool.not_eq_true', decide_eq_true_eq] at ht
    obtain ⟨⟨⟨⟨⟨⟨⟨⟨ho1, ho2⟩, hd⟩, hu⟩, _⟩, _⟩, _⟩, _⟩, _⟩ := ht
    refine ⟨fun x hx => ?_, fun hs => ?_⟩
    · unfold okUse at hu
      rw [List.all_eq_true] at hu
      have := hu x hx
      unfold withinB at this
      simp only [Bool.and_eq_true, decide_eq_true_eq] at this
      omega
    · unfold Tac.sets setsZ at hs ⊢
      split
      · rename_i hsb
        rcases hd with hd | hd
        · rw [hsb] at hd; cases hd
        · unfold withinB at hd
          simp only [Bool.and_eq_true, decide_eq_true_eq] at hd
          omega
      · omega
  · unfold endsB at he
    rw [if_neg (by omega), if_pos hen] at he
    simp only [Bool.and_eq_true, withinB, decide_eq_true_eq] at he
    omega
def trueAt (n k : Nat) : List (List AV) := (List.range n).map fun v => [bv (decide (v < k))]
theorem trueAt_len (n k : Nat) : (trueAt n k).length = n := by simp [trueAt]
theorem trueAt_zero (n : Nat) : trueAt n 0 = List.replicate n [bv false] := by
  apply List.ext_getElem?
  intro j
  simp only [trueAt, List.getElem?_map, List.getElem?_replicate]
  by_cases h : j < n
  · rw [List.getElem?_eq_getElem (by simpa using h)]; simp [h]
  · rw [List.getElem?_eq_none (by simp; omega)]; simp [h]
theorem trueAt_all (n : Nat) : trueAt n n = (List.replicate n true).map fun x => [bv x] := by
  apply List.ext_getElem?
  intro j
  simp only [trueAt, List.getElem?_map, List.getElem?_replicate]
  by_cases h : j < n
  · rw [List.getElem?_eq_getElem (by simpa using h)]; simp [h]
  · rw [List.getElem?_eq_none (by simp; omega)]; simp [h]
theorem trueAt_get {n k : Nat} (h : k < n) : (trueAt n k)[k]? = some [bv false] := by simp [trueAt, h]
theorem trueAt_succ {n k : Nat} (h : k < n) : (trueAt n k).set k [bv true] = trueAt n (k + 1) := by
  apply List.ext_getElem?
  intro j
  rw [List.getElem?_set]
  simp only [trueAt, List.getElem?_map, List.length_map, List.length_range]
  by_cases e : k = j
  · subst e
    rw [List.getElem?_eq_getElem (by simpa using h)]
    simp [h]
  · rw [if_neg e]
    by_cases hj : j < n
    · rw [List.getElem?_eq_getElem (by simpa using hj)]
      simp only [List.getElem_range, Option.map_some, Option.some.injEq, List.cons.injEq, and_true, AV.sc.injEq, Value.bool.injEq, decide_eq_decide]
      omega
    · rw [List.getElem?_eq_none (by simp; omega)]; rfl
/-- A list that is filled from the front. -/
def fillAt {α : Type} (g : α → List AV) (z : List AV) (l : List α) (k : Nat) : List (List AV) := l.mapIdx fun j x => if j < k then g x else z
theorem fillAt_len {α : Type} (g : α → List AV) (z : List AV) (l : List α) (k : Nat) : (fillAt g z l k).length = l.length := by simp [fillAt]
theorem fillAt_zero {α : Type} (g : α → List AV) (z : List AV) (l : List α) : fillAt g z l 0 = List.replicate l.length z := by
  apply List.ext_getElem?
  intro j
  simp only [fillAt, List.getElem?_mapIdx, List.getElem?_replicate]
  by_cases h : j < l.length
  · rw [List.getElem?_eq_getElem h]; simp [h]
  · rw [List.getElem?_eq_none (by omega)]; simp [h]
theorem fillAt_all {α : Type} (g : α → List AV) (z : List AV) (l : List α) : fillAt g z l l.length = l.map g := by
  apply List.ext_getElem?
  intro j
  simp only [fillAt, List.getElem?_mapIdx, List.getElem?_map]
  cases hj : l[j]? with
  | none => rfl
  | some u => simp only [Option.map_some]; rw [if_pos (List.getElem?_eq_some_iff.1 hj).1]
theorem fillAt_get {α : Type} {g : α → List AV} {z : List AV} {l : List α} {k : Nat} (h : k < l.length) : (fillAt g z l k)[k]? = some z := by simp [fillAt, h]
theorem fillAt_succ {α : Type} {g : α → List AV} {z : List AV} {l : List α} {k : Nat} {x : α} (h : l[k]? = some x) : (fillAt g z l k).set k (g x) = fillAt g z l (k + 1) := by
  have hk := (List.getElem?_eq_some_iff.1 h).1
  apply List.ext_getElem?
  intro j
  rw [List.getElem?_set]
  simp only [fillAt, List.getElem?_mapIdx, List.length_mapIdx]
  by_cases e : k = j
  · subst e
    have ht := (List.getElem?_eq_some_iff.1 h).2
    simp [hk, ht]
  · rw [if_neg e]
    cases hj : l[j]? with
    | none => rfl
    | some u =>
      simp only [Option.map_some, Option.some.injEq]
      by_cases hjk : j < k
      · rw [if_pos hjk, if_pos (by omega)]
      · rw [if_neg hjk, if_neg (by omega)]
abbrev gB (n : Nat) (b : Blk) : List AV := (fwdBlk n b).row
abbrev zB : List AV := [.sl false 8 [], iv 0, iv 0, iv 0, iv 0]
abbrev gC (n : Nat) (_ : Blk) : List AV := [.sl false 1 ((List.replicate n true).map fun x => [bv x])]
abbrev zC : List AV := [.sl false 1 []]
set_option maxHeartbeats 4000000 in
theorem d13 (n : Nat) (bs : List Blk) (hn : n ≤ 4000) (hbs : bs.length ≤ 100000) (hins : ∀ b ∈ bs, b.ins.length ≤ 100000) (hok : ∀ b ∈ bs, b.okR n) : (lim Try.prog E31 X31).dat 13 [.agg [iv n, .sl false 5 (bs.map Blk.row)]] = some [.agg [iv n, .vec 5 (bs.map (gB n))], .agg [.vec 1 (bs.map (gC n))]] := by
  refine fnW Try.func13 rfl rfl bodyOk_13 rfl rtys_13 rfl ?_
  have hb1 : (bs.length : Int) * 56 ≤ 140737488355328 := by omega
  have hb2 : (bs.length : Int) * 24 ≤ 140737488355328 := by omega
  have hb3 : (bs.length : Int) ≤ 9223372036854775807 := by omega
  have hb4 : (n : Int) ≤ 9223372036854775807 := by omega
  have hb5 : (n : Int) ≤ 140737488355328 := by omega
  repeat' (first
    | ((with_reducible apply Wo_u); (conv => lhs; simp -implicitDefEqProofs [*]) <;> exact rfl)
    | ((with_reducible apply Wo_n); (conv => lhs; simp -implicitDefEqProofs [*]) <;> exact rfl)
    | (with_reducible apply Wo_nil)
    | ((with_reducible apply Wo_gt); (exact rfl); ((conv => lhs; simp -implicitDefEqProofs [*]) <;> exact rfl); (conv => lhs; simp -implicitDefEqProofs [*]) <;> exact rfl)
    | ((with_reducible apply Wo_gf); (exact rfl); ((conv => lhs; simp -implicitDefEqProofs [*]) <;> exact rfl); (exact rfl))
    | ((with_reducible apply Wo_gx); (exact rfl); ((conv => lhs; simp -implicitDefEqProofs [*]) <;> exact rfl))
    | ((with_reducible apply Wo_gsT); (exact rfl); ((conv => lhs; simp -implicitDefEqProofs [*]) <;> exact rfl))
    | ((with_reducible apply Wo_gsF); (exact rfl); ((conv => lhs; simp -implicitDefEqProofs [*]) <;> exact rfl))
    | ((with_reducible apply ex2); (conv => lhs; simp -implicitDefEqProofs [*]) <;> exact rfl)
    | (with_reducible apply W_ss) | (with_reducible apply W_srl) | (with_reducible apply W_rl)
    | ((with_reducible apply W_sc); (conv => lhs; simp -implicitDefEqProofs [*]) <;> exact rfl)
    | ((with_reducible apply W_c); (conv => lhs; simp -implicitDefEqProofs [*]) <;> exact rfl)
    | ((with_reducible apply W_srdl); kernel_rfl) | ((with_reducible apply W_rdl); kernel_rfl)
    | ((with_reducible apply Wd_u); (conv => lhs; simp -implicitDefEqProofs [*]) <;> exact rfl)
    | ((with_reducible apply Wd_n); (conv => lhs; simp -implicitDefEqProofs [*]) <;> exact rfl)
    | ((with_reducible apply Wd_nil); exact rfl)
    | ((with_reducible apply Wd_gsT); (exact rfl); ((conv => lhs; simp -implicitDefEqProofs [*]) <;> exact rfl))
    | ((with_reducible apply Wd_gsF); (exact rfl); ((conv => lhs; simp -implicitDefEqProofs [*]) <;> exact rfl))
    | ((with_reducible apply ex4); (conv => lhs; simp -implicitDefEqProofs [*]) <;> exact rfl)
    | (with_reducible apply W_sblock) | (with_reducible apply W_block) | (with_reducible apply W_sskip) | (with_reducible apply W_skip) | (with_reducible apply W_sret) | (with_reducible apply W_ret) | (with_reducible apply W_sexit) | (with_reducible apply W_exit)
    | (with_reducible apply thenW_n) | (with_reducible apply thenW_r) | (with_reducible apply thenW_e) | (with_reducible apply inB_n) | (with_reducible apply inB_r) | (with_reducible apply inB_e) | ((with_reducible apply inB_o); rotate_left; exact rfl)
    | ((with_reducible apply EndQ_ret); (conv => lhs; simp -implicitDefEqProofs [*]) <;> exact rfl) | ((with_reducible apply EndQ_normal); (conv => lhs; simp -implicitDefEqProofs [*]) <;> exact rfl)
    | (intro h h'; try simp [*, -h] at h'))
  refine W_loopS (n := bs.length) (fun s0 m s => ∃ k : Nat, m = bs.length - k ∧ k ≤ bs.length ∧ s.fr 25 = iv k ∧ s.fr 1 = s0.fr 1 ∧ s.fr 4 = s0.fr 4 ∧ s.fr 5 = s0.fr 5 ∧ s.fr 23 = s0.fr 23 ∧ s.fr 24 = s0.fr 24 ∧ s.fr 2 = s0.fr 2 ∧ s.fr 3 = s0.fr 3 ∧ s.hp ⟨0, 1, 0⟩ = s0.hp ⟨0, 1, 0⟩ ∧ s.hp ⟨0, 4, 0⟩ = s0.hp ⟨0, 4, 0⟩ ∧ s.hp ⟨0, 5, 0⟩ = s0.hp ⟨0, 5, 0⟩ ∧ s.hp ⟨0, 2, 0⟩ = s0.hp ⟨0, 2, 0⟩ ∧ s.hp ⟨0, 3, 0⟩ = s0.hp ⟨0, 3, 0⟩ ∧ s.hp ⟨0, 2, 2⟩ = s0.hp ⟨0, 2, 2⟩ ∧ s.hp ⟨0, 3, 1⟩ = s0.hp ⟨0, 3, 1⟩ ∧ s.hp ⟨0, 4, 2⟩ = .arr 2 5 37 (fillAt (gB n) zB bs k) false ∧ s.hp ⟨0, 5, 1⟩ = .arr 2 1 55 (fillAt (gC n) zC bs k) false) ⟨0, by simp, by first | omega | simp, by simp, by simp, by simp, by simp, by simp, by simp, by simp, by simp, by simp, by simp, by simp, by simp, by simp, by simp, by simp, by simp [fillAt_zero, trueAt_zero], by simp [fillAt_zero, trueAt_zero]⟩ ?_
  rintro m ⟨fr, hp⟩ ⟨k, rfl, hk, hs25, hs1, hs4, hs5, hs23, hs24, hs2, hs3, hh0_1_0, hh0_4_0, hh0_5_0, hh0_2_0, hh0_3_0, hh0_2_2, hh0_3_1, hh0_4_2, hh0_5_1⟩
  simp at hs25 hs1 hs4 hs5 hs23 hs24 hs2 hs3 hh0_1_0 hh0_4_0 hh0_5_0 hh0_2_0 hh0_3_0 hh0_2_2 hh0_3_1 hh0_4_2 hh0_5_1
  by_cases hlt : k < bs.length
  · have hg := List.getElem?_eq_getElem hlt
    have hw := wrapN (k := k) (by omega)
    have hf := fwd_dat bs[k] n hn (hins _ (List.getElem_mem hlt)) (hok _ (List.getElem_mem hlt))
    simp only [Blk.row] at hf
    have hz1 := fillAt_get (g := gB n) (z := zB) hlt
    have hz2 := fillAt_get (g := gC n) (z := zC) hlt
    have hl1 := fillAt_len (gB n) zB bs k
    have hl2 := fillAt_len (gC n) zC bs k
    have hs1 : (fillAt (gB n) zB bs k).set k [.sl false 8 ((fwdBlk n bs[k]).ins.map Tac.row), iv bs[k].en, iv (fwdBlk n bs[k]).v, iv bs[k].to, iv bs[k].el] = fillAt (gB n) zB bs (k + 1) := fillAt_succ (g := gB n) (z := zB) hg
    have hs2' : (fillAt (gC n) zC bs k).set k [.sl false 1 (trueAt n n)] = fillAt (gC n) zC bs (k + 1) := by rw [trueAt_all]; exact fillAt_succ (g := gC n) (z := zC) hg
    have hz1' : ∀ h, (fillAt (gB n) zB bs k)[k]'h = zB := fun h => by rw [List.getElem?_eq_getElem h] at hz1; exact Option.some.inj hz1
    have hz2' : ∀ h, (fillAt (gC n) zC bs k)[k]'h = zC := fun h => by rw [List.getElem?_eq_getElem h] at hz2; exact Option.some.inj hz2
    have htk : ((fwdBlk n bs[k]).ins.map Tac.row).take (fwdBlk n bs[k]).ins.length = (fwdBlk n bs[k]).ins.map Tac.row := List.take_of_length_le (by simp)
    have HS1 := Lib.hid hs1
    have HS2 := Lib.hid hs2'
    clear hs1 hs2'
    repeat' (first
      | ((with_reducible apply Wo_u); (conv => lhs; simp -implicitDefEqProofs [*]) <;> exact rfl)
      | ((with_reducible apply Wo_n); (conv => lhs; simp -implicitDefEqProofs [*]) <;> exact rfl)
      | (with_reducible apply Wo_nil)
      | ((with_reducible apply Wo_gt); (exact rfl); ((conv => lhs; simp -implicitDefEqProofs [*]) <;> exact rfl); (conv => lhs; simp -implicitDefEqProofs [*]) <;> exact rfl)
      | ((with_reducible apply Wo_gf); (exact rfl); ((conv => lhs; simp -implicitDefEqProofs [*]) <;> exact rfl); (exact rfl))
      | ((with_reducible apply Wo_gx); (exact rfl); ((conv => lhs; simp -implicitDefEqProofs [*]) <;> exact rfl))
      | ((with_reducible apply Wo_gsT); (exact rfl); ((conv => lhs; simp -implicitDefEqProofs [*]) <;> exact rfl))
      | ((with_reducible apply Wo_gsF); (exact rfl); ((conv => lhs; simp -implicitDefEqProofs [*]) <;> exact rfl))
      | ((with_reducible apply ex2); (conv => lhs; simp -implicitDefEqProofs [*]) <;> exact rfl)
      | (with_reducible apply W_ss) | (with_reducible apply W_srl) | (with_reducible apply W_rl)
      | ((with_reducible apply W_sc); (conv => lhs; simp -implicitDefEqProofs [*]) <;> exact rfl)
      | ((with_reducible apply W_c); (conv => lhs; simp -implicitDefEqProofs [*]) <;> exact rfl)
      | ((with_reducible apply W_srdl); kernel_rfl) | ((with_reducible apply W_rdl); kernel_rfl)
      | ((with_reducible apply Wd_u); (conv => lhs; simp -implicitDefEqProofs [*]) <;> exact rfl)
      | ((with_reducible apply Wd_n); (conv => lhs; simp -implicitDefEqProofs [*]) <;> exact rfl)
      | ((with_reducible apply Wd_nil); exact rfl)
      | ((with_reducible apply Wd_gsT); (exact rfl); ((conv => lhs; simp -implicitDefEqProofs [*]) <;> exact rfl))
      | ((with_reducible apply Wd_gsF); (exact rfl); ((conv => lhs; simp -implicitDefEqProofs [*]) <;> exact rfl))
      | ((with_reducible apply ex4); (conv => lhs; simp -implicitDefEqProofs [*]) <;> exact rfl)
      | (with_reducible apply W_sblock) | (with_reducible apply W_block) | (with_reducible apply W_sskip) | (with_reducible apply W_skip) | (with_reducible apply W_sret) | (with_reducible apply W_ret) | (with_reducible apply W_sexit) | (with_reducible apply W_exit)
      | (with_reducible apply thenW_n) | (with_reducible apply thenW_r) | (with_reducible apply thenW_e) | (with_reducible apply inB_n) | (with_reducible apply inB_r) | (with_reducible apply inB_e) | ((with_reducible apply inB_o); rotate_left; exact rfl)
      | ((with_reducible apply EndQ_ret); (conv => lhs; simp -implicitDefEqProofs [*]) <;> exact rfl) | ((with_reducible apply EndQ_normal); (conv => lhs; simp -implicitDefEqProofs [*]) <;> exact rfl)
      | (intro h h'; try simp [*, -h] at h'))
    refine W_loopS (n := n) (fun s0 m s => ∃ j : Nat, m = n - j ∧ j ≤ n ∧ s.fr 43 = iv j ∧ s.fr 1 = s0.fr 1 ∧ s.fr 4 = s0.fr 4 ∧ s.fr 5 = s0.fr 5 ∧ s.fr 23 = s0.fr 23 ∧ s.fr 24 = s0.fr 24 ∧ s.fr 25 = s0.fr 25 ∧ s.fr 6 = s0.fr 6 ∧ s.fr 8 = s0.fr 8 ∧ s.fr 42 = s0.fr 42 ∧ s.fr 2 = s0.fr 2 ∧ s.fr 3 = s0.fr 3 ∧ s.hp ⟨0, 1, 0⟩ = s0.hp ⟨0, 1, 0⟩ ∧ s.hp ⟨0, 4, 0⟩ = s0.hp ⟨0, 4, 0⟩ ∧ s.hp ⟨0, 5, 0⟩ = s0.hp ⟨0, 5, 0⟩ ∧ s.hp ⟨0, 2, 0⟩ = s0.hp ⟨0, 2, 0⟩ ∧ s.hp ⟨0, 3, 0⟩ = s0.hp ⟨0, 3, 0⟩ ∧ s.hp ⟨0, 2, 2⟩ = s0.hp ⟨0, 2, 2⟩ ∧ s.hp ⟨0, 3, 1⟩ = s0.hp ⟨0, 3, 1⟩ ∧ s.hp ⟨0, 4, 2⟩ = s0.hp ⟨0, 4, 2⟩ ∧ s.hp ⟨0, 5, 1⟩ = s0.hp ⟨0, 5, 1⟩ ∧ s.hp ⟨0, 40, 0⟩ = .arr (s0.hp ⟨0, 40, 0⟩).gen 1 4 (trueAt n j) false) ⟨0, by simp, by first | omega | simp, by simp, by simp, by simp, by simp, by simp, by simp, by simp, by simp, by simp, by simp, by simp, by simp, by simp, by simp, by simp, by simp, by simp, by simp, by simp, by simp, by simp, by simp [fillAt_zero, trueAt_zero]⟩ ?_
    rintro m ⟨fr, hp⟩ ⟨j, rfl, hk, hs43, hs1, hs4, hs5, hs23, hs24, hs25, hs6, hs8, hs42, hs2, hs3, hh0_1_0, hh0_4_0, hh0_5_0, hh0_2_0, hh0_3_0, hh0_2_2, hh0_3_1, hh0_4_2, hh0_5_1, hh0_40_0⟩
    simp at hs43 hs1 hs4 hs5 hs23 hs24 hs25 hs6 hs8 hs42 hs2 hs3 hh0_1_0 hh0_4_0 hh0_5_0 hh0_2_0 hh0_3_0 hh0_2_2 hh0_3_1 hh0_4_2 hh0_5_1 hh0_40_0
    by_cases hlj : j < n
    · have hwj := wrapN (k := j) (by omega)
      have htg := trueAt_get hlj
      have htl := trueAt_len n j
      have htg' : ∀ h, (trueAt n j)[j]'h = [bv false] := fun h => by rw [List.getElem?_eq_getElem h] at htg; exact Option.some.inj htg
      repeat' (first
        | ((with_reducible apply Wo_u); (conv => lhs; simp -implicitDefEqProofs [*]) <;> exact rfl)
        | ((with_reducible apply Wo_n); (conv => lhs; simp -implicitDefEqProofs [*]) <;> exact rfl)
        | (with_reducible apply Wo_nil)
        | ((with_reducible apply Wo_gt); (exact rfl); ((conv => lhs; simp -implicitDefEqProofs [*]) <;> exact rfl); (conv => lhs; simp -implicitDefEqProofs [*]) <;> exact rfl)
        | ((with_reducible apply Wo_gf); (exact rfl); ((conv => lhs; simp -implicitDefEqProofs [*]) <;> exact rfl); (exact rfl))
        | ((with_reducible apply Wo_gx); (exact rfl); ((conv => lhs; simp -implicitDefEqProofs [*]) <;> exact rfl))
        | ((with_reducible apply Wo_gsT); (exact rfl); ((conv => lhs; simp -implicitDefEqProofs [*]) <;> exact rfl))
        | ((with_reducible apply Wo_gsF); (exact rfl); ((conv => lhs; simp -implicitDefEqProofs [*]) <;> exact rfl))
        | ((with_reducible apply ex2); (conv => lhs; simp -implicitDefEqProofs [*]) <;> exact rfl)
        | (with_reducible apply W_ss) | (with_reducible apply W_srl) | (with_reducible apply W_rl)
        | ((with_reducible apply W_sc); (conv => lhs; simp -implicitDefEqProofs [*]) <;> exact rfl)
        | ((with_reducible apply W_c); (conv => lhs; simp -implicitDefEqProofs [*]) <;> exact rfl)
        | ((with_reducible apply W_srdl); kernel_rfl) | ((with_reducible apply W_rdl); kernel_rfl)
        | ((with_reducible apply Wd_u); (conv => lhs; simp -implicitDefEqProofs [*]) <;> exact rfl)
        | ((with_reducible apply Wd_n); (conv => lhs; simp -implicitDefEqProofs [*]) <;> exact rfl)
        | ((with_reducible apply Wd_nil); exact rfl)
        | ((with_reducible apply Wd_gsT); (exact rfl); ((conv => lhs; simp -implicitDefEqProofs [*]) <;> exact rfl))
        | ((with_reducible apply Wd_gsF); (exact rfl); ((conv => lhs; simp -implicitDefEqProofs [*]) <;> exact rfl))
        | ((with_reducible apply ex4); (conv => lhs; simp -implicitDefEqProofs [*]) <;> exact rfl)
        | (with_reducible apply W_sblock) | (with_reducible apply W_block) | (with_reducible apply W_sskip) | (with_reducible apply W_skip) | (with_reducible apply W_sret) | (with_reducible apply W_ret) | (with_reducible apply W_sexit) | (with_reducible apply W_exit)
        | (with_reducible apply thenW_n) | (with_reducible apply thenW_r) | (with_reducible apply thenW_e) | (with_reducible apply inB_n) | (with_reducible apply inB_r) | (with_reducible apply inB_e) | ((with_reducible apply inB_o); rotate_left; exact rfl)
        | ((with_reducible apply EndQ_ret); (conv => lhs; simp -implicitDefEqProofs [*]) <;> exact rfl) | ((with_reducible apply EndQ_normal); (conv => lhs; simp -implicitDefEqProofs [*]) <;> exact rfl)
        | (intro h h'; try simp [*, -h] at h'))
      exact ⟨_, by omega, j + 1, rfl, hlj, by simp, by simp [*], by simp [*], by simp [*], by simp [*], by simp [*], by simp [*], by simp [*], by simp [*], by simp [*], by simp [*], by simp [*], by simp [*], by simp [*], by simp [*], by simp [*], by simp [*], by simp [*], by simp [*], by simp [*], by simp [*], by simp [*, trueAt_succ hlj]⟩
    · obtain rfl : j = n := by omega
      have htl := trueAt_len j j
      have htk2 : (trueAt j j).take j = trueAt j j := List.take_of_length_le (by rw [htl]; exact Nat.le_refl _)
      repeat' (first
        | ((with_reducible apply Wo_u); (conv => lhs; simp -implicitDefEqProofs [*]) <;> exact rfl)
        | ((with_reducible apply Wo_n); (conv => lhs; simp -implicitDefEqProofs [*]) <;> exact rfl)
        | (with_reducible apply Wo_nil)
        | ((with_reducible apply Wo_gt); (exact rfl); ((conv => lhs; simp -implicitDefEqProofs [*]) <;> exact rfl); (conv => lhs; simp -implicitDefEqProofs [*]) <;> exact rfl)
        | ((with_reducible apply Wo_gf); (exact rfl); ((conv => lhs; simp -implicitDefEqProofs [*]) <;> exact rfl); (exact rfl))
        | ((with_reducible apply Wo_gx); (exact rfl); ((conv => lhs; simp -implicitDefEqProofs [*]) <;> exact rfl))
        | ((with_reducible apply Wo_gsT); (exact rfl); ((conv => lhs; simp -implicitDefEqProofs [*]) <;> exact rfl))
        | ((with_reducible apply Wo_gsF); (exact rfl); ((conv => lhs; simp -implicitDefEqProofs [*]) <;> exact rfl))
        | ((with_reducible apply ex2); (conv => lhs; simp -implicitDefEqProofs [*]) <;> exact rfl)
        | (with_reducible apply W_ss) | (with_reducible apply W_srl) | (with_reducible apply W_rl)
        | ((with_reducible apply W_sc); (conv => lhs; simp -implicitDefEqProofs [*]) <;> exact rfl)
        | ((with_reducible apply W_c); (conv => lhs; simp -implicitDefEqProofs [*]) <;> exact rfl)
        | ((with_reducible apply W_srdl); kernel_rfl) | ((with_reducible apply W_rdl); kernel_rfl)
        | ((with_reducible apply Wd_u); (conv => lhs; simp -implicitDefEqProofs [*]) <;> exact rfl)
        | ((with_reducible apply Wd_n); (conv => lhs; simp -implicitDefEqProofs [*]) <;> exact rfl)
        | ((with_reducible apply Wd_nil); exact rfl)
        | ((with_reducible apply Wd_gsT); (exact rfl); ((conv => lhs; simp -implicitDefEqProofs [*]) <;> exact rfl))
        | ((with_reducible apply Wd_gsF); (exact rfl); ((conv => lhs; simp -implicitDefEqProofs [*]) <;> exact rfl))
        | ((with_reducible apply ex4); (conv => lhs; simp -implicitDefEqProofs [*]) <;> exact rfl)
        | (with_reducible apply W_sblock) | (with_reducible apply W_block) | (with_reducible apply W_sskip) | (with_reducible apply W_skip) | (with_reducible apply W_sret) | (with_reducible apply W_ret) | (with_reducible apply W_sexit) | (with_reducible apply W_exit)
        | (with_reducible apply thenW_n) | (with_reducible apply thenW_r) | (with_reducible apply thenW_e) | (with_reducible apply inB_n) | (with_reducible apply inB_r) | (with_reducible apply inB_e) | ((with_reducible apply inB_o); rotate_left; exact rfl)
        | ((with_reducible apply EndQ_ret); (conv => lhs; simp -implicitDefEqProofs [*]) <;> exact rfl) | ((with_reducible apply EndQ_normal); (conv => lhs; simp -implicitDefEqProofs [*]) <;> exact rfl)
        | (intro h h'; try simp [*, -h] at h'))
      have hs1 := HS1.out
      have hs2' := HS2.out
      exact ⟨_, by omega, k + 1, rfl, hlt, by simp, by simp [*], by simp [*], by simp [*], by simp [*], by simp [*], by simp [*], by simp [*], by simp [*], by simp [*], by simp [*], by simp [*], by simp [*], by simp [*], by simp [*], by simp [*], by simp [*]⟩
  · obtain rfl : k = bs.length := by omega
    have ha1 := fillAt_all (gB n) zB bs
    have ha2 := fillAt_all (gC n) zC bs
    repeat' (first
      | ((with_reducible apply Wo_u); (conv => lhs; simp -implicitDefEqProofs [*]) <;> exact rfl)
      | ((with_reducible apply Wo_n); (conv => lhs; simp -implicitDefEqProofs [*]) <;> exact rfl)
      | (with_reducible apply Wo_nil)
      | ((with_reducible apply Wo_gt); (exact rfl); ((conv => lhs; simp -implicitDefEqProofs [*]) <;> exact rfl); (conv => lhs; simp -implicitDefEqProofs [*]) <;> exact rfl)
      | ((with_reducible apply Wo_gf); (exact rfl); ((conv => lhs; simp -implicitDefEqProofs [*]) <;> exact rfl); (exact rfl))
      | ((with_reducible apply Wo_gx); (exact rfl); ((conv => lhs; simp -implicitDefEqProofs [*]) <;> exact rfl))
      | ((with_reducible apply Wo_gsT); (exact rfl); ((conv => lhs; simp -implicitDefEqProofs [*]) <;> exact rfl))
      | ((with_reducible apply Wo_gsF); (exact rfl); ((conv => lhs; simp -implicitDefEqProofs [*]) <;> exact rfl))
      | ((with_reducible apply ex2); (conv => lhs; simp -implicitDefEqProofs [*]) <;> exact rfl)
      | (with_reducible apply W_ss) | (with_reducible apply W_srl) | (with_reducible apply W_rl)
      | ((with_reducible apply W_sc); (conv => lhs; simp -implicitDefEqProofs [*]) <;> exact rfl)
      | ((with_reducible apply W_c); (conv => lhs; simp -implicitDefEqProofs [*]) <;> exact rfl)
      | ((with_reducible apply W_srdl); kernel_rfl) | ((with_reducible apply W_rdl); kernel_rfl)
      | ((with_reducible apply Wd_u); (conv => lhs; simp -implicitDefEqProofs [*]) <;> exact rfl)
      | ((with_reducible apply Wd_n); (conv => lhs; simp -implicitDefEqProofs [*]) <;> exact rfl)
      | ((with_reducible apply Wd_nil); exact rfl)
      | ((with_reducible apply Wd_gsT); (exact rfl); ((conv => lhs; simp -implicitDefEqProofs [*]) <;> exact rfl))
      | ((with_reducible apply Wd_gsF); (exact rfl); ((conv => lhs; simp -implicitDefEqProofs [*]) <;> exact rfl))
      | ((with_reducible apply ex4); (conv => lhs; simp -implicitDefEqProofs [*]) <;> exact rfl)
      | (with_reducible apply W_sblock) | (with_reducible apply W_block) | (with_reducible apply W_sskip) | (with_reducible apply W_skip) | (with_reducible apply W_sret) | (with_reducible apply W_ret) | (with_reducible apply W_sexit) | (with_reducible apply W_exit)
      | (with_reducible apply thenW_n) | (with_reducible apply thenW_r) | (with_reducible apply thenW_e) | (with_reducible apply inB_n) | (with_reducible apply inB_r) | (with_reducible apply inB_e) | ((with_reducible apply inB_o); rotate_left; exact rfl)
      | ((with_reducible apply EndQ_ret); (conv => lhs; simp -implicitDefEqProofs [*]) <;> exact rfl) | ((with_reducible apply EndQ_normal); (conv => lhs; simp -implicitDefEqProofs [*]) <;> exact rfl)
      | (intro h h'; try simp [*, -h] at h'))
    simp [*]
end Go.Proofs.Ytmfhdhiaokejdaa
