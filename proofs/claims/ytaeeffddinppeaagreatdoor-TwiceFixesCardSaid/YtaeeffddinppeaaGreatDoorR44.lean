/- A part of the proof: Sm. -/
import Derived.Test.YtaeeffddinppeaaGreatDoorR20
set_option linter.unusedSimpArgs false
set_option linter.unusedVariables false
namespace Go.Proofs.YtaeeffddinppeaaGreatDoor
open Go Go.Ab Go.ChangeShapes Go.WideShapes Go.ChangeAt Go.RowKit
section
variable {H : Type} {enc : TypeId × Value → H} {w : World} {N : Nat}
theorem cut3 {l : List Value} (h : l.length = 3) : ∃ a0 a1 a2, l = [a0, a1, a2] := by
  match l, h with
  | [a0, a1, a2], _ => exact ⟨a0, a1, a2, rfl⟩
theorem i64_range {n : Int} (h : (Lit.int .i64 n).wf = true) : -9223372036854775808 ≤ n ∧ n ≤ 9223372036854775807 := by
  have e : IntKind.i64.min = -9223372036854775808 := rfl
  have e2 : IntKind.i64.max = 9223372036854775807 := rfl
  simp [Lit.wf] at h
  first | omega | (simp [IntKind.inRange, e, e2] at h; omega)
theorem reads_dif : Reads H enc Tryz.prog w N 44 (fun p : Int × Int × Int => [iv p.1, iv p.2.1, iv p.2.2]) (fun p => (-9223372036854775808 ≤ p.1 ∧ p.1 ≤ 9223372036854775807) ∧ (-9223372036854775808 ≤ p.2.1 ∧ p.2.1 ≤ 9223372036854775807) ∧ (-9223372036854775808 ≤ p.2.2 ∧ p.2.2 ≤ 9223372036854775807)) := by
  intro fuel cs x h hb
  obtain ⟨hl, n, hf⟩ := trod_fields Tryz.underlying44 h hb
  rw [show Tryz.prog.cellsOf 44 = 3 by kernel_rfl] at hl
  obtain ⟨c0, c1, c2, rfl⟩ := cut3 hl
  have e0 := hf 0
  have e1 := hf 1
  have e2 := hf 2
  simp only [List.getElem?_toArray, List.getElem?_cons_zero, List.getElem?_cons_succ, Option.some.injEq, forall_eq', show Tryz.prog.cellsOf 3 = 1 by kernel_rfl, show Tryz.prog.cellsOf 24 = 1 by kernel_rfl, List.drop_zero, List.drop_succ_cons, List.take_succ_cons, List.take_zero] at e0 e1 e2
  obtain ⟨y0, h0, b0⟩ := e0
  obtain ⟨y1, h1, b1⟩ := e1
  obtain ⟨y2, h2, b2⟩ := e2
  obtain ⟨v0, r0, w0⟩ := reads_int (N := N) Tryz.underlying24 _ _ _ h0 b0
  obtain ⟨v1, r1, w1⟩ := reads_int (N := N) Tryz.underlying3 _ _ _ h1 b1
  obtain ⟨v2, r2, w2⟩ := reads_int (N := N) Tryz.underlying3 _ _ _ h2 b2
  refine ⟨(v0, v1, v2), ?_, i64_range w0, i64_range w1, i64_range w2⟩
  simp [RepDL] at r0 r1 r2
  exact ⟨_, _, rfl, r0, ⟨_, _, rfl, r1, ⟨_, _, rfl, r2, rfl⟩⟩⟩
end
theorem rd44 : Tryz.prog.readableRec 44 = true := by kernel_rfl
theorem lt44 : 44 < Tryz.prog.types.size := of_decide_eq_true (by kernel_rfl)
theorem want44 : Tryz.prog.wantsStandIn 44 = false := by kernel_rfl
end Go.Proofs.YtaeeffddinppeaaGreatDoor
