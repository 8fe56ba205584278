/- Law 31: lemmas on what is computed. -/
import Derived.Test.YtmfhdhiaokejdaaD31
namespace Go.Proofs.Ytmfhdhiaokejdaa
open Go Go.Ab
set_option linter.unusedSimpArgs false
set_option linter.unusedVariables false
theorem oneB_no {f : Fn} {number words : Int} {k : Nat} {b : Blk} (hg : f.blocks[k]? = some b) (h : okBlk f.blocks.length f.regs number words b = false) : oneB f number words = false := by
  unfold oneB; rw [not_all hg h]; simp
theorem oneB_yes {f : Fn} {number words : Int} (h0 : 0 ≤ f.regs) (h1 : f.regs ≤ 4000) (h2 : 0 < f.blocks.length) (h : AllTo (okBlk f.blocks.length f.regs number words) f.blocks f.blocks.length) : oneB f number words = true := by
  unfold oneB; simp [h0, h1, h2, h.all]
theorem okBlk_no {blocks regs number words : Int} {b : Blk} {k : Nat} {t : Tac} (hg : b.ins[k]? = some t) (h : t.fitsB number regs words = false) : okBlk blocks regs number words b = false := by
  unfold okBlk; rw [not_all hg h]; simp
theorem okBlk_yes {blocks regs number words : Int} {b : Blk} (he : endsB b.en b.v b.to b.el blocks regs = true) (h : AllTo (fun t => t.fitsB number regs words) b.ins b.ins.length) : okBlk blocks regs number words b = true := by
  unfold okBlk; simp [he, h.all]
theorem fullB_no1 {same : List (List Bool)} {blocks regs : Int} (h : ¬ (same.length : Int) = blocks) : fullB same blocks regs = false := by simp [fullB, h]
theorem fullB_no {same : List (List Bool)} {blocks regs : Int} {k : Nat} {l : List Bool} (hg : same[k]? = some l) (h : ((l.length : Int) == regs && l.all fun x => x) = false) : fullB same blocks regs = false := by
  unfold fullB; rw [not_all hg h]; simp
theorem fullB_yes {same : List (List Bool)} {blocks regs : Int} (hl : (same.length : Int) = blocks) (h : AllTo (fun l : List Bool => (l.length : Int) == regs && l.all fun x => x) same same.length) : fullB same blocks regs = true := by
  unfold fullB; rw [h.all]; simp [hl]
theorem copyFrom_succ {ins : List Tac} {v : Int} {hi i : Nat} {t : Tac} (hg : ins[i]? = some t) : copyFrom ins v hi (i + 1) = if t.sets = v then (if t.op = 2 ∧ t.a ≠ v then noSet ins t.a (i + 1) hi else false) else copyFrom ins v hi i := by
  simp [copyFrom, hg]
theorem noSet_no {ins : List Tac} {x : Int} {lo hi k : Nat} {t : Tac} (h1 : lo ≤ k) (h2 : k < hi) (hg : ins[k]? = some t) (h : t.sets = x) : noSet ins x lo hi = false := by
  unfold noSet
  refine not_all (k := k - lo) (x := t) ?_ (by simp [h])
  rw [List.getElem?_drop, List.getElem?_take, if_pos (by omega), show lo + (k - lo) = k by omega, hg]
theorem noSet_yes {ins : List Tac} {x : Int} {lo hi : Nat} (h : ∀ k t, lo ≤ k → k < hi → ins[k]? = some t → t.sets ≠ x) : noSet ins x lo hi = true := by
  unfold noSet
  rw [List.all_eq_true]
  intro t ht
  obtain ⟨j, hj, rfl⟩ := List.getElem_of_mem ht
  have hg := List.getElem?_eq_getElem hj
  generalize ((ins.take hi).drop lo)[j] = t at hg
  rw [List.getElem?_drop, List.getElem?_take] at hg
  split at hg
  · simpa using h _ t (by omega) ‹_› hg
  · cases hg
theorem doneB_no {b : Blk} {i : Nat} {r : Int} (hi : i ≤ b.ins.length) (hr : r ∈ readsAt b i) (h : copyB b i r = true) : doneB b = false := by
  unfold doneB
  rw [List.all_eq_false]
  refine ⟨i, by simp; omega, ?_⟩
  simp only [Bool.not_eq_true, List.all_eq_false]
  exact ⟨r, hr, by simp [h]⟩
theorem doneB_yes {b : Blk} (h : ∀ i, i ≤ b.ins.length → ∀ r ∈ readsAt b i, copyB b i r = false) : doneB b = true := by
  unfold doneB
  rw [List.all_eq_true]
  intro i hi
  rw [List.all_eq_true]
  intro r hr
  simp [h i (by simpa using Nat.lt_succ_iff.1 (List.mem_range.1 hi)) r hr]
theorem uses_len (op a b : Int) : (usesL op a b).length ≤ 2 := by unfold usesL; split <;> (try split) <;> simp
theorem readsAt_lt {b : Blk} {i : Nat} {t : Tac} (hg : b.ins[i]? = some t) : readsAt b i = t.uses := by simp [readsAt, hg]
theorem readsAt_end {b : Blk} : readsAt b b.ins.length = if b.en = 2 then [b.v] else [] := by simp [readsAt]
end Go.Proofs.Ytmfhdhiaokejdaa
