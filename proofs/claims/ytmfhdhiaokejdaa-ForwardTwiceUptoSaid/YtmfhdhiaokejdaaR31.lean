/- Law 31: what is read of the arguments. -/
import Derived.Test.YtmfhdhiaokejdaaBr
import Derived.Test.YtmfhdhiaokejdaaF31
import Derived.Test.YtmfhdhiaokejdaaD31
namespace Go.Proofs.Ytmfhdhiaokejdaa
open Go Go.Ab
set_option linter.unusedSimpArgs false
set_option linter.unusedVariables false
section
variable {H : Type} {enc : TypeId × Value → H} {w : World} {N : Nat}
structure Tac.wf (t : Tac) : Prop where
  op : (Lit.int .i64 t.op).wf = true
  d : (Lit.int .i64 t.d).wf = true
  a : (Lit.int .i64 t.a).wf = true
  b : (Lit.int .i64 t.b).wf = true
  k : (Lit.int .i64 t.k).wf = true
  base : (Lit.int .i64 t.base).wf = true
  size : (Lit.int .i64 t.size).wf = true
  n : (Lit.int .u32 t.n).wf = true
structure Blk.wf (N : Nat) (b : Blk) : Prop where
  ins : b.ins.length ≤ N ∧ ∀ t ∈ b.ins, t.wf
  en : (Lit.int .i64 b.en).wf = true
  v : (Lit.int .i64 b.v).wf = true
  to : (Lit.int .i64 b.to).wf = true
  el : (Lit.int .i64 b.el).wf = true
structure Fn.wf (N : Nat) (f : Fn) : Prop where
  regs : (Lit.int .i64 f.regs).wf = true
  blocks : f.blocks.length ≤ N ∧ ∀ b ∈ f.blocks, b.wf N
theorem cut8 {l : List Value} (h : l.length = 8) : ∃ a b c d e f g i, l = [a, b, c, d, e, f, g, i] := by
  match l, h with
  | [a, b, c, d, e, f, g, i], _ => exact ⟨a, b, c, d, e, f, g, i, rfl⟩
theorem cut5 {l : List Value} (h : l.length = 5) : ∃ a b c d e, l = [a, b, c, d, e] := by
  match l, h with
  | [a, b, c, d, e], _ => exact ⟨a, b, c, d, e, rfl⟩
theorem cut2 {l : List Value} (h : l.length = 2) : ∃ a b, l = [a, b] := by
  match l, h with
  | [a, b], _ => exact ⟨a, b, rfl⟩
theorem reads_tac : Reads H enc Try.prog w N 40 Tac.row Tac.wf := by
  intro fuel cs x h hb
  obtain ⟨hl, n, hf⟩ := trod_fields Try.underlying40 h hb
  rw [cellsOf_40] at hl
  obtain ⟨c0, c1, c2, c3, c4, c5, c6, c7, rfl⟩ := cut8 hl
  have e0 := hf 0
  have e1 := hf 1
  have e2 := hf 2
  have e3 := hf 3
  have e4 := hf 4
  have e5 := hf 5
  have e6 := hf 6
  have e7 := hf 7
  simp only [List.getElem?_toArray, List.getElem?_cons_zero, List.getElem?_cons_succ, Option.some.injEq, forall_eq', cellsOf_3, cellsOf_38, List.drop_zero, List.drop_succ_cons, List.take_succ_cons, List.take_zero] at e0 e1 e2 e3 e4 e5 e6 e7
  obtain ⟨y0, h0, b0⟩ := e0
  obtain ⟨y1, h1, b1⟩ := e1
  obtain ⟨y2, h2, b2⟩ := e2
  obtain ⟨y3, h3, b3⟩ := e3
  obtain ⟨y4, h4, b4⟩ := e4
  obtain ⟨y5, h5, b5⟩ := e5
  obtain ⟨y6, h6, b6⟩ := e6
  obtain ⟨y7, h7, b7⟩ := e7
  obtain ⟨v0, r0, w0⟩ := reads_int (N := N) Try.underlying3 _ _ _ h0 b0
  obtain ⟨v1, r1, w1⟩ := reads_int (N := N) Try.underlying3 _ _ _ h1 b1
  obtain ⟨v2, r2, w2⟩ := reads_int (N := N) Try.underlying3 _ _ _ h2 b2
  obtain ⟨v3, r3, w3⟩ := reads_int (N := N) Try.underlying3 _ _ _ h3 b3
  obtain ⟨v4, r4, w4⟩ := reads_int (N := N) Try.underlying3 _ _ _ h4 b4
  obtain ⟨v5, r5, w5⟩ := reads_int (N := N) Try.underlying3 _ _ _ h5 b5
  obtain ⟨v6, r6, w6⟩ := reads_int (N := N) Try.underlying3 _ _ _ h6 b6
  obtain ⟨v7, r7, w7⟩ := reads_int (N := N) Try.underlying38 _ _ _ h7 b7
  refine ⟨⟨v0, v1, v2, v3, v4, v5, v6, v7⟩, ?_, ⟨w0, w1, w2, w3, w4, w5, w6, w7⟩⟩
  simp [RepDL] at r0 r1 r2 r3 r4 r5 r6 r7
  exact ⟨_, _, rfl, r0, ⟨_, _, rfl, r1, ⟨_, _, rfl, r2, ⟨_, _, rfl, r3, ⟨_, _, rfl, r4, ⟨_, _, rfl, r5, ⟨_, _, rfl, r6, ⟨_, _, rfl, r7, rfl⟩⟩⟩⟩⟩⟩⟩⟩
theorem reads_blk : Reads H enc Try.prog w N 37 Blk.row (Blk.wf N) := by
  intro fuel cs x h hb
  obtain ⟨hl, n, hf⟩ := trod_fields Try.underlying37 h hb
  rw [cellsOf_37] at hl
  obtain ⟨c0, c1, c2, c3, c4, rfl⟩ := cut5 hl
  have e0 := hf 0
  have e1 := hf 1
  have e2 := hf 2
  have e3 := hf 3
  have e4 := hf 4
  simp only [List.getElem?_toArray, List.getElem?_cons_zero, List.getElem?_cons_succ, Option.some.injEq, forall_eq', cellsOf_3, cellsOf_35, List.drop_zero, List.drop_succ_cons, List.take_succ_cons, List.take_zero] at e0 e1 e2 e3 e4
  obtain ⟨y0, h0, b0⟩ := e0
  obtain ⟨y1, h1, b1⟩ := e1
  obtain ⟨y2, h2, b2⟩ := e2
  obtain ⟨y3, h3, b3⟩ := e3
  obtain ⟨y4, h4, b4⟩ := e4
  obtain ⟨v0, r0, w0⟩ := reads_slice (N := N) Try.underlying35 cellsOf_40 (by omega) reads_tac _ _ _ h0 b0
  obtain ⟨v1, r1, w1⟩ := reads_int (N := N) Try.underlying3 _ _ _ h1 b1
  obtain ⟨v2, r2, w2⟩ := reads_int (N := N) Try.underlying3 _ _ _ h2 b2
  obtain ⟨v3, r3, w3⟩ := reads_int (N := N) Try.underlying3 _ _ _ h3 b3
  obtain ⟨v4, r4, w4⟩ := reads_int (N := N) Try.underlying3 _ _ _ h4 b4
  refine ⟨⟨v0, v1, v2, v3, v4⟩, ?_, ⟨w0, w1, w2, w3, w4⟩⟩
  simp [RepDL] at r0 r1 r2 r3 r4
  exact ⟨_, _, rfl, r0, ⟨_, _, rfl, r1, ⟨_, _, rfl, r2, ⟨_, _, rfl, r3, ⟨_, _, rfl, r4, rfl⟩⟩⟩⟩⟩
theorem reads_fn : Reads H enc Try.prog w N 24 Fn.row (Fn.wf N) := by
  intro fuel cs x h hb
  obtain ⟨hl, n, hf⟩ := trod_fields Try.underlying24 h hb
  rw [cellsOf_24] at hl
  obtain ⟨c0, c1, rfl⟩ := cut2 hl
  have e0 := hf 0
  have e1 := hf 1
  simp only [List.getElem?_toArray, List.getElem?_cons_zero, List.getElem?_cons_succ, Option.some.injEq, forall_eq', cellsOf_3, cellsOf_22, List.drop_zero, List.drop_succ_cons, List.take_succ_cons, List.take_zero] at e0 e1
  obtain ⟨y0, h0, b0⟩ := e0
  obtain ⟨y1, h1, b1⟩ := e1
  obtain ⟨v0, r0, w0⟩ := reads_int (N := N) Try.underlying3 _ _ _ h0 b0
  obtain ⟨v1, r1, w1⟩ := reads_slice (N := N) Try.underlying22 cellsOf_37 (by omega) reads_blk _ _ _ h1 b1
  refine ⟨⟨v0, v1⟩, ?_, ⟨w0, w1⟩⟩
  simp [RepDL] at r0 r1
  exact ⟨_, _, rfl, r0, ⟨_, _, rfl, r1, rfl⟩⟩
end
end Go.Proofs.Ytmfhdhiaokejdaa
