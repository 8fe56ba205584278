/- A part of the proof: Sn. -/
import Derived.Test.YtaeeffddinppeaaGreatDoorR20
import Derived.Test.YtaeeffddinppeaaGreatDoorR40
set_option linter.unusedSimpArgs false
set_option linter.unusedVariables false
namespace Go.Proofs.YtaeeffddinppeaaGreatDoor
open Go Go.Ab Go.ChangeShapes Go.WideShapes Go.ChangeAt Go.RowKit
section
variable {H : Type} {enc : TypeId × Value → H} {w : World} {N : Nat}
theorem cut4 {l : List Value} (h : l.length = 4) : ∃ a0 a1 a2 a3, l = [a0, a1, a2, a3] := by
  match l, h with
  | [a0, a1, a2, a3], _ => exact ⟨a0, a1, a2, a3, rfl⟩
theorem repDL_append {I : Nat → Prop} {xs ys : List AV} {us vs : List Value} (h1 : RepDL I w xs us) (h2 : RepDL I w ys vs) : RepDL I w (xs ++ ys) (us ++ vs) :=
  (RepDL_iff _ _).2 (((RepDL_iff _ _).1 h1).append ((RepDL_iff _ _).1 h2))
theorem reads_passes : Reads H enc Tryz.prog w N 31 (fun l : List Int => [.sl false 1 (rowN l)]) (fun _ => True) := by
  intro fuel cs x h hb
  obtain ⟨l, hr, _, hw⟩ := reads_slice (N := N) Tryz.underlying31 (show Tryz.prog.cellsOf 3 = 1 by kernel_rfl) (by omega) (reads_int (N := N) Tryz.underlying3) fuel cs x h hb
  exact ⟨l, hr, trivial⟩
theorem reads_d4 : Reads H enc Tryz.prog w N 34 (D4.row) (fun _ => True) := by
  intro fuel cs x h hb
  obtain ⟨hl, n, hf⟩ := trod_items Tryz.underlying34 h hb
  rw [show Tryz.prog.cellsOf 34 = 4 by kernel_rfl] at hl
  obtain ⟨c0, c1, c2, c3, rfl⟩ := cut4 hl
  have e0 := hf 0 (by omega)
  have e1 := hf 1 (by omega)
  have e2 := hf 2 (by omega)
  have e3 := hf 3 (by omega)
  simp only [Nat.mul_one, show Tryz.prog.cellsOf 32 = 1 by kernel_rfl, List.drop_zero, List.drop_succ_cons, List.take_succ_cons, List.take_zero] at e0 e1 e2 e3
  obtain ⟨y0, h0, b0⟩ := e0
  obtain ⟨y1, h1, b1⟩ := e1
  obtain ⟨y2, h2, b2⟩ := e2
  obtain ⟨y3, h3, b3⟩ := e3
  obtain ⟨v0, r0, w0⟩ := reads_int (N := N) Tryz.underlying32 _ _ _ h0 b0
  obtain ⟨v1, r1, w1⟩ := reads_int (N := N) Tryz.underlying32 _ _ _ h1 b1
  obtain ⟨v2, r2, w2⟩ := reads_int (N := N) Tryz.underlying32 _ _ _ h2 b2
  obtain ⟨v3, r3, w3⟩ := reads_int (N := N) Tryz.underlying32 _ _ _ h3 b3
  refine ⟨⟨v0, v1, v2, v3⟩, ?_, trivial⟩
  simp [RepDL] at r0 r1 r2 r3
  exact ⟨_, _, rfl, r0, ⟨_, _, rfl, r1, ⟨_, _, rfl, r2, ⟨_, _, rfl, r3, rfl⟩⟩⟩⟩
theorem cuts9 {cs : List Value} (h : cs.length = 9) : cs.take 1 ++ ((cs.drop 1).take 1 ++ ((cs.drop 2).take 1 ++ ((cs.drop 3).take 1 ++ ((cs.drop 4).take 4 ++ ((cs.drop 8).take 1))))) = cs := by
  match cs, h with
  | [_, _, _, _, _, _, _, _, _], _ => rfl
theorem cuts21 {cs : List Value} (h : cs.length = 21) : cs.take 1 ++ ((cs.drop 1).take 1 ++ ((cs.drop 2).take 9 ++ ((cs.drop 11).take 9 ++ ((cs.drop 20).take 1)))) = cs := by
  match cs, h with
  | [_, _, _, _, _, _, _, _, _, _, _, _, _, _, _, _, _, _, _, _, _], _ => rfl
theorem reads_par : Reads H enc Tryz.prog w N 36 (fun p : Par => p.row) (fun _ => True) := by
  intro fuel cs x h hb
  obtain ⟨hl, n, hf⟩ := trod_fields Tryz.underlying36 h hb
  rw [show Tryz.prog.cellsOf 36 = 9 by kernel_rfl] at hl
  have e0 := hf 0
  have e1 := hf 1
  have e2 := hf 2
  have e3 := hf 3
  have e4 := hf 4
  have e5 := hf 5
  simp only [List.getElem?_toArray, List.getElem?_cons_zero, List.getElem?_cons_succ, Option.some.injEq, forall_eq', show Tryz.prog.cellsOf 3 = 1 by kernel_rfl, show Tryz.prog.cellsOf 9 = 1 by kernel_rfl, show Tryz.prog.cellsOf 31 = 1 by kernel_rfl, show Tryz.prog.cellsOf 34 = 4 by kernel_rfl, List.drop_zero] at e0 e1 e2 e3 e4 e5
  obtain ⟨y0, h0, b0⟩ := e0
  obtain ⟨y1, h1, b1⟩ := e1
  obtain ⟨y2, h2, b2⟩ := e2
  obtain ⟨y3, h3, b3⟩ := e3
  obtain ⟨y4, h4, b4⟩ := e4
  obtain ⟨y5, h5, b5⟩ := e5
  obtain ⟨v0, r0, w0⟩ := reads_int (N := N) Tryz.underlying3 _ _ _ h0 b0
  obtain ⟨v1, r1, w1⟩ := reads_passes (N := N) _ _ _ h1 b1
  obtain ⟨v2, r2, w2⟩ := reads_string (N := N) Tryz.underlying9 _ _ _ h2 b2
  obtain ⟨v3, r3, w3⟩ := reads_int (N := N) Tryz.underlying3 _ _ _ h3 b3
  obtain ⟨v4, r4, w4⟩ := reads_d4 (N := N) _ _ _ h4 b4
  obtain ⟨v5, r5, w5⟩ := reads_string (N := N) Tryz.underlying9 _ _ _ h5 b5
  refine ⟨⟨v0, v1, v2, v3, v4, v5⟩, ?_, trivial⟩
  have := repDL_append r0 (repDL_append r1 (repDL_append r2 (repDL_append r3 (repDL_append r4 r5))))
  rw [cuts9 hl] at this
  exact this
theorem reads_ask : Reads H enc Tryz.prog w N 48 (fun p : ByteArray × ByteArray × Par × Par × Int => askR p.1 p.2.1 p.2.2.1 p.2.2.2.1 p.2.2.2.2) (fun _ => True) := by
  intro fuel cs x h hb
  obtain ⟨hl, n, hf⟩ := trod_fields Tryz.underlying48 h hb
  rw [show Tryz.prog.cellsOf 48 = 21 by kernel_rfl] at hl
  have e0 := hf 0
  have e1 := hf 1
  have e2 := hf 2
  have e3 := hf 3
  have e4 := hf 4
  simp only [List.getElem?_toArray, List.getElem?_cons_zero, List.getElem?_cons_succ, Option.some.injEq, forall_eq', show Tryz.prog.cellsOf 3 = 1 by kernel_rfl, show Tryz.prog.cellsOf 9 = 1 by kernel_rfl, show Tryz.prog.cellsOf 36 = 9 by kernel_rfl, List.drop_zero] at e0 e1 e2 e3 e4
  obtain ⟨y0, h0, b0⟩ := e0
  obtain ⟨y1, h1, b1⟩ := e1
  obtain ⟨y2, h2, b2⟩ := e2
  obtain ⟨y3, h3, b3⟩ := e3
  obtain ⟨y4, h4, b4⟩ := e4
  obtain ⟨v0, r0, w0⟩ := reads_string (N := N) Tryz.underlying9 _ _ _ h0 b0
  obtain ⟨v1, r1, w1⟩ := reads_string (N := N) Tryz.underlying9 _ _ _ h1 b1
  obtain ⟨v2, r2, w2⟩ := reads_par (N := N) _ _ _ h2 b2
  obtain ⟨v3, r3, w3⟩ := reads_par (N := N) _ _ _ h3 b3
  obtain ⟨v4, r4, w4⟩ := reads_int (N := N) Tryz.underlying3 _ _ _ h4 b4
  refine ⟨(v0, v1, v2, v3, v4), ?_, trivial⟩
  have := repDL_append r0 (repDL_append r1 (repDL_append r2 (repDL_append r3 r4)))
  rw [cuts21 hl] at this
  exact this
end
theorem rd48 : Tryz.prog.readableRec 48 = true := by kernel_rfl
theorem lt48 : 48 < Tryz.prog.types.size := of_decide_eq_true (by kernel_rfl)
theorem want48 : Tryz.prog.wantsStandIn 48 = false := by kernel_rfl
end Go.Proofs.YtaeeffddinppeaaGreatDoor
