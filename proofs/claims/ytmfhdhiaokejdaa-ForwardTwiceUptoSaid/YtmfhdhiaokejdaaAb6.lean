/- Memory: what loads, stores, appends come to in a world. No program is named here. -/
import Derived.Test.YtmfhdhiaokejdaaAb5
namespace Go.Ab
open Go
set_option linter.unusedSimpArgs false
set_option linter.unusedVariables false

theorem add_plain (b o i : Nat) : (⟨b, o, none⟩ : Addr).add i = ⟨b, o + i, none⟩ := by unfold Addr.add; split <;> simp_all

section
variable {P : Program}

theorem run_storeCells_mk (g o : Nat) (t : TypeId) (mk : Nat × Nat) : ∀ (vs : List Value) (i : Nat) (cur : Array Value) (w : World), w.heap[g]? = some (.cells cur t mk) → NoMark cur mk → o + i + vs.length ≤ cur.size → (∀ v ∈ vs, v.oneCell' = true) →
    (storeCells ⟨g, o, none⟩ vs i).run P w = .ok () (w.setRow g (cur.toList.take (o + i) ++ vs ++ cur.toList.drop (o + i + vs.length)).toArray)
  | [], i, cur, w, hg, _, _, _ => by
    simp only [storeCells, List.append_nil, List.length_nil, Nat.add_zero, List.take_append_drop, Array.toArray_toList]
    rw [setRow_self w g cur t mk hg]
    rfl
  | v :: rest, i, cur, w, hg, hm, hl, h1 => by
    have hi : o + i < cur.size := by simp at hl; omega
    have hcell : w.cell? ⟨g, o + i, none⟩ = some cur[o + i] := by simp [World.cell?, hg, hi]
    have hfro : w.frozen? ⟨g, o + i, none⟩ = false := by
      simp only [World.frozen?, hg]
      exact hm (o + i) hi
    have hst : (store ((⟨g, o, none⟩ : Addr).add i) v).run P w = .ok () (w.setRow g (cur.setIfInBounds (o + i) v)) := by
      rw [add_plain, run_store P w _ v _ (h1 v (by simp)), hcell]
      simp [hfro, setCell_eq_setRow w g (o + i) cur t mk v hg]
    have ih := run_storeCells_mk g o t mk rest (i + 1) (cur.setIfInBounds (o + i) v) (w.setRow g (cur.setIfInBounds (o + i) v)) (setRow_heap w g cur _ t _ hg) (fun j hj => hm j (by simpa using hj)) (by simp at hl ⊢; omega) (fun x hx => h1 x (by simp [hx]))
    simp only [storeCells, Sem.run_bind, hst, Result.andThen_ok, ih, setRow_setRow]
    congr 3
    have e := list_seg_step cur.toList (o + i) v rest (by simp at hl ⊢; omega)
    simpa [Array.toList_setIfInBounds, Nat.add_assoc] using e

/-- What is appended: so many rows, which lie somewhere, in whatever world. -/
structure Src (P : Program) (w : World) (size n : Nat) (x : Value) (news : List Value) : Prop where
  len : ∀ w', (Builtin.lenOf x).run P w' = .ok n w'
  first : ∀ w' : World, w'.heap = w.heap → (Builtin.firstCells size n x).run P w' = .ok news.toArray w'
  length : news.length = n * size

def notInt (P : Program) (u : TypeId) : Prop := (∃ e, P.underlying u = some (.slice e)) ∨ P.underlying u = some .string

section
variable (w : World) (t u ty e : TypeId) (i : TypeInfo) (z : Value) (ht : P.underlying t = some (.slice e)) (hu : notInt P u) (hi : P.info? e = some i) (hz : i.zero = some z)
include ht hu hi

theorem append_room (g sLen sCap : Nat) (cur : Array Value) (mk : Nat × Nat) (hg : w.heap[g]? = some (.cells cur e mk)) (hm : NoMark cur mk)
    (x : Value) (m : Nat) (news : List Value) (hs : Src P w i.size m x news) (h1 : ∀ v ∈ news, v.oneCell' = true)
    (hroom : sLen + m ≤ sCap) (hfit : sLen * i.size + news.length ≤ cur.size) :
    (Builtin.append_ #[t, u] ty #[.slice (some ⟨g, 0, none⟩) sLen sCap, x]).run P w =
      .ok (.slice (some ⟨g, 0, none⟩) (sLen + m) sCap) (w.setRow g (cur.toList.take (sLen * i.size) ++ news ++ cur.toList.drop (sLen * i.size + news.length)).toArray) := by
  have hst := run_storeCells_mk (P := P) g (sLen * i.size) e mk news 0 cur w hg hm (by simpa using hfit) h1
  simp only [Nat.add_zero] at hst
  have hf := hs.first w rfl
  have hl := hs.len w
  rcases hu with ⟨e', hu⟩ | hu <;> simp [Builtin.append_, run_underlying ht, run_underlying hu, sizeOf, typeInfo, hi, hl, hroom, hf, add_plain, hst]

include hz
theorem append_grow (b : Addr) (sLen sCap : Nat) (olds : List Value) (hlo : olds.length = sLen * i.size) (holds : ∀ j v, olds[j]? = some v → w.cell? (b.add j) = some v)
    (x : Value) (n : Nat) (news : List Value) (hs : Src P w i.size n x news)
    (hg : sCap < sLen + n) (h63 : ((sLen + n : Nat) : Int) ≤ 9223372036854775807) (hfit : Builtin.nextslicecap (sLen + n) sCap * i.bytes ≤ 281474976710656) :
    (Builtin.append_ #[t, u] ty #[.slice (some b) sLen sCap, x]).run P w =
      .ok (.slice (some ⟨w.heap.size, 0, none⟩) (sLen + n) (grownCap w (sLen + n) sCap e))
        (w.drew.alloc (.cells (olds.toArray ++ news.toArray ++ Builtin.zeroCells z.cells (grownCap w (sLen + n) sCap e - (sLen + n))) e)) := by
  have hn : ¬ (sLen + n ≤ sCap) := by omega
  have h63' : ¬ (9223372036854775807 < ((sLen : Int) + (n : Int))) := by omega
  have h48' : ¬ (281474976710656 < Builtin.nextslicecap (sLen + n) sCap * i.bytes) := by omega
  have hf := hs.first w.drew rfl
  have hl := hs.len w
  have hfo := run_firstCells_some (P := P) w.drew i.size sLen b sLen sCap olds hlo (by simpa using holds)
  rcases hu with ⟨e', hu⟩ | hu <;> simp [Builtin.append_, run_underlying ht, run_underlying hu, sizeOf, typeInfo, zeroValue, hi, hz, hl, hn, h63', h48', Question.forced, hf, hfo, newRow, grownCap] <;> (congr 2; apply Array.ext'; simp [List.append_assoc])

theorem append_nil (x : Value) (n : Nat) (news : List Value) (hs : Src P w i.size n x news) (h0 : 0 < n) (h63 : (n : Int) ≤ 9223372036854775807) (h48 : n * i.bytes ≤ 281474976710656) :
    (Builtin.append_ #[t, u] ty #[.slice none 0 0, x]).run P w =
      .ok (.slice (some ⟨w.heap.size, 0, none⟩) n (grownCap w n 0 e)) (w.drew.alloc (.cells (news.toArray ++ Builtin.zeroCells z.cells (grownCap w n 0 e - n)) e)) := by
  have hn : n ≠ 0 := by omega
  have h63' : ¬ (9223372036854775807 < (n : Int)) := by omega
  have h48' : ¬ (281474976710656 < Builtin.nextslicecap n 0 * i.bytes) := by rw [nextslicecap_zero h0]; omega
  have hf := hs.first w.drew rfl
  have hl := hs.len w
  rcases hu with ⟨e', hu⟩ | hu <;> simp [Builtin.append_, run_underlying ht, run_underlying hu, sizeOf, typeInfo, zeroValue, hi, hz, hl, hn, h63', h48', Question.forced, run_firstCells_none, hf, newRow, grownCap]

omit hz in
theorem append_nil0 (x : Value) (hs : Src P w i.size 0 x []) : (Builtin.append_ #[t, u] ty #[.slice none 0 0, x]).run P w = .ok (.slice none 0 0) w := by
  have hf := hs.first w rfl
  have hl := hs.len w
  rcases hu with ⟨e', hu⟩ | hu <;> simp [Builtin.append_, run_underlying ht, run_underlying hu, sizeOf, typeInfo, hi, hl, hf]
end

theorem run_loadVar_ok (w : World) (t : TypeId) (b o : Nat) (i : TypeInfo) (hi : P.info? t = some i) :
    (isAggB P t = true → ∀ us : List Value, us.length = i.size → CellsAt w b o us → (loadVar t ⟨b, o, none⟩).run P w = .ok (.agg ⟨us⟩) w) ∧
    (isAggB P t = false → (P.underlying t).isSome → ∀ u, w.cell? ⟨b, o, none⟩ = some u → (loadVar t ⟨b, o, none⟩).run P w = .ok u w) := by
  constructor
  · intro ha us hl hc
    have hcl := run_loadCells_list (P := P) w ⟨b, o, none⟩ us (fun j v hv => by rw [add_plain]; exact hc j v hv)
    rw [hl] at hcl
    unfold isAggB at ha
    cases hd : P.underlying t with
    | none => simp [hd] at ha
    | some d => cases d <;> simp [hd] at ha <;> simp [loadVar, isAgg, run_underlying hd, sizeOf, typeInfo, hi, hcl]
  · intro ha hs u hu
    unfold isAggB at ha
    cases hd : P.underlying t with
    | none => simp [hd] at hs
    | some d => cases d <;> simp [hd] at ha <;> simp [loadVar, isAgg, run_underlying hd, load, Sem.run, hu]

theorem run_storeVar_ok (w : World) (t : TypeId) (b o : Nat) (i : TypeInfo) (hi : P.info? t = some i) (v : Value) (cur : Array Value) (T : TypeId) (mk : Nat × Nat)
    (hg : w.heap[b]? = some (.cells cur T mk)) (hm : NoMark cur mk) (hsz : v.cells.size = i.size) (hl : o + v.cells.size ≤ cur.size) (h1 : ∀ u ∈ v.cells.toList, u.oneCell' = true) :
    (storeVar t ⟨b, o, none⟩ v).run P w = .ok () (w.setRow b (cur.toList.take o ++ v.cells.toList ++ cur.toList.drop (o + v.cells.size)).toArray) := by
  have hst := run_storeCells_mk (P := P) b o T mk v.cells.toList 0 cur w hg hm (by simpa using hl) h1
  simp only [Nat.add_zero] at hst
  simp [storeVar, sizeOf, typeInfo, hi, hsz, hst]
end

section
variable {I K : Nat → Prop} {m : Mp} {hp hp' : Hp} {w : World} {k : Nat}

mutual
theorem Rep.depth {D D' : Nat} (hd : D ≤ D') : ∀ (a : AV) (u : Value), Rep D I m hp w a u → Rep D' I m hp w a u
  | .any, _, _ => by simp [Rep]
  | .sc v, u, h => by simpa [Rep] using h
  | .sl full sz rows, u, h => by simpa only [Rep] using h
  | .dp cells off, u, h => by simpa only [Rep] using h
  | .own .., _, h => by simp only [Rep] at h ⊢; exact ⟨Nat.le_trans h.1 hd, h.2⟩
  | .ptr .., _, h => by simp only [Rep] at h ⊢; exact ⟨Nat.le_trans h.1 hd, h.2⟩
  | .eptr .., _, h => by simp only [Rep] at h ⊢; exact ⟨Nat.le_trans h.1 hd, h.2⟩
  | .agg cs, u, h => by
    simp only [Rep] at h ⊢
    obtain ⟨us, hu, h⟩ := h
    exact ⟨us, hu, RepL.depth hd cs us h⟩
  | .tup cs, u, h => by
    simp only [Rep] at h ⊢
    obtain ⟨us, hu, h⟩ := h
    exact ⟨us, hu, RepL.depth hd cs us h⟩
  | .fn f cs, u, h => by
    simp only [Rep] at h ⊢
    obtain ⟨us, hu, h⟩ := h
    exact ⟨us, hu, RepL.depth hd cs us h⟩
  | .vec .., _, h => by simp [Rep] at h
theorem RepL.depth {D D' : Nat} (hd : D ≤ D') : ∀ (as : List AV) (us : List Value), RepL D I m hp w as us → RepL D' I m hp w as us
  | [], us, h => by simpa [RepL] using h
  | a :: as, us, h => by
    simp only [RepL] at h ⊢
    obtain ⟨v, vs, hu, h1, h2⟩ := h
    exact ⟨v, vs, hu, Rep.depth hd a v h1, RepL.depth hd as vs h2⟩
end

/-- So many cells from an address on, as the world has them. -/
theorem cellsFrom_ok (G : Gam I K m hp w) {n : Nat} (hn : 0 < n) {a : AV} {u : Value} {cs : List AV} (hr : Rep k I m hp w a u) (h : (cellsFrom n a).run hp = some (cs, hp')) :
    hp' = hp ∧ cs.length = n ∧ ∃ b o us, u = .pointer (some ⟨b, o, none⟩) ∧ CellsAt w b o us ∧ AllR (Rep k I m hp w) cs us := by
  cases a with
  | ptr x g off =>
    simp only [cellsFrom, Prog.run] at h
    cases hx : hp x with
    | no g' => rw [hx] at h; simp [Prog.run, AObj.head] at h
    | arr g' sz e rows f => rw [hx] at h; simp [Prog.run, AObj.head] at h
    | box g' cells f =>
      rw [hx] at h
      simp only [AObj.head] at h
      split at h
      · rename_i hg
        obtain ⟨rfl, hle⟩ := hg
        rw [run_getCs hx n off hle] at h
        simp only [Option.some.injEq, Prod.mk.injEq] at h
        obtain ⟨rfl, rfl⟩ := h
        refine ⟨rfl, by rw [List.length_take, List.length_drop]; omega, ?_⟩
        simp only [Rep] at hr
        obtain ⟨hd, _, hr⟩ := hr
        obtain ⟨b, c, hm, rfl⟩ := hr cells f hx
        have ho := G.obj x
        rw [hx] at ho
        obtain ⟨b', c', us, T, mk, h1, h2, h3, h4, h5, h6⟩ := ho
        rw [h1] at hm; cases hm
        refine ⟨b, off, (us.toList.drop off).take n, rfl, fun j v hv => ?_, ((((RepL_iff _ _).1 h4).drop off).take n).imp fun a u h => h.depth hd⟩
        rw [List.getElem?_take] at hv
        split at hv
        · rw [List.getElem?_drop] at hv
          rw [cell_of_row w b (off + j) us T mk h2]
          simpa using hv
        · cases hv
      · simp [Prog.run] at h
  | eptr x g i off =>
    simp only [cellsFrom, Prog.run] at h
    cases hx : hp x with
    | no g' => rw [hx] at h; simp [Prog.run] at h
    | box g' c f => rw [hx] at h; simp [Prog.run] at h
    | arr g' sz e rows f =>
      rw [hx] at h
      simp only at h
      split at h
      · rename_i hg
        subst hg
        split at h
        · rename_i r hri
          split at h
          · rename_i hle
            simp only [Prog.run, Option.some.injEq, Prod.mk.injEq] at h
            obtain ⟨rfl, rfl⟩ := h
            refine ⟨rfl, by rw [List.length_take, List.length_drop]; omega, ?_⟩
            simp only [Rep] at hr
            obtain ⟨hd, _, hr⟩ := hr
            obtain ⟨b, c, hm, rfl⟩ := hr sz e rows f hx
            have ho := G.obj x
            rw [hx] at ho
            have hilt : i < rows.length := (List.getElem?_eq_some_iff.1 hri).1
            rcases ho with ⟨h1, h2⟩ | ⟨b', cap, us, mk, h1, h2, h3, h4, h5, h6, h7, h8, h9⟩
            · rw [h1] at hm; cases hm
            · rw [h1] at hm; cases hm
              obtain ⟨he, ha⟩ := (RepRows_iff _ _).1 h7
              have hrow := he.row hri
              have ha' := ((ha.drop (i * sz)).take sz)
              rw [hrow] at ha'
              refine ⟨b, i * sz + off, _, rfl, ?_, ((ha'.drop off).take n).imp fun a u h => RepD.rep h⟩
              intro j v hv
              rw [List.getElem?_take] at hv
              split at hv
              · rw [List.getElem?_drop, List.getElem?_take] at hv
                split at hv
                · rw [List.getElem?_drop, List.getElem?_take] at hv
                  split at hv
                  · rw [cell_of_row w b _ us e mk h2]
                    rw [← Nat.add_assoc] at hv
                    simpa using hv
                  · cases hv
                · cases hv
              · cases hv
          · simp [Prog.run] at h
        · simp [Prog.run] at h
      · simp [Prog.run] at h
  | dp cells off =>
    simp only [cellsFrom] at h
    split at h
    · simp only [Prog.run, Option.some.injEq, Prod.mk.injEq] at h
      obtain ⟨rfl, rfl⟩ := h
      refine ⟨rfl, by rw [List.length_take, List.length_drop]; omega, ?_⟩
      simp only [Rep, RepD] at hr
      obtain ⟨b, o, us, rfl, hb, hc, hl⟩ := hr
      refine ⟨b, o + off, (us.drop off).take n, rfl, fun j v hv => ?_, ((((RepDL_iff _ _).1 hl).drop off).take n).imp fun a u h => RepD.rep h⟩
      rw [List.getElem?_take] at hv
      split at hv
      · rw [List.getElem?_drop] at hv
        have := hc _ v hv
        rwa [← Nat.add_assoc] at this
      · cases hv
    · simp [Prog.run] at h
  | any | sc | sl | own | agg | tup | vec | fn => simp [cellsFrom, Prog.run] at h

theorem load_ok (P : Program) (G : Gam I K m hp w) {t : TypeId} {a v : AV} {u : Value} (hr : Rep k I m hp w a u) (h : (loadP P t a).run hp = some (v, hp')) :
    hp' = hp ∧ ∃ u', (Instr.loadAt t u).run P w = .ok u' w ∧ Rep k I m hp w v u' := by
  unfold loadP at h
  have hinfo : (P.underlying t).isSome = true → ∃ i, P.info? t = some i := fun ht => by
    cases hq : P.info? t with
    | none => simp [Program.underlying, hq] at ht
    | some i => exact ⟨i, rfl⟩
  split at h
  · rename_i hagg
    split at h
    · rename_i hpos
      obtain ⟨cs, hp1, r1, h2⟩ := run_bind_some h
      clear h
      obtain ⟨e1, hlen, b, o, us, rfl, h1, h3⟩ := cellsFrom_ok G hpos hr r1
      simp only [Prog.run, Option.some.injEq, Prod.mk.injEq] at h2
      obtain ⟨rfl, rfl⟩ := h2
      obtain ⟨i, hi⟩ := hinfo (by unfold isAggB at hagg; cases hd : P.underlying t <;> simp [hd] at hagg ⊢)
      have hsz : P.cellsOf t = i.size := by simp [Program.cellsOf, hi]
      refine ⟨e1, .agg ⟨us⟩, ?_, ?_⟩
      · simp only [Instr.loadAt, Instr.sureAddr, Sem.run_bind, Sem.run_pure, Result.andThen_ok]
        exact (run_loadVar_ok (P := P) w t b o i hi).1 hagg us (by rw [← h3.1, hlen, hsz]) h1
      · simp only [Rep]
        exact ⟨_, rfl, (RepL_iff _ _).2 h3⟩
    · simp [Prog.run] at h
  · rename_i hagg
    split at h
    · rename_i ht
      obtain ⟨i, hi⟩ := hinfo ht
      obtain ⟨cs, hp1, r1, h2⟩ := run_bind_some h
      clear h
      obtain ⟨e1, hlen, b, o, us, rfl, h1, h3⟩ := cellsFrom_ok G (by omega) hr r1
      split at h2
      · rename_i v'
        simp only [Prog.run, Option.some.injEq, Prod.mk.injEq] at h2
        obtain ⟨rfl, rfl⟩ := h2
        obtain ⟨u', us', rfl, h4, _⟩ := h3.cons_inv
        refine ⟨e1, u', ?_, h4⟩
        simp only [Instr.loadAt, Instr.sureAddr, Sem.run_bind, Sem.run_pure, Result.andThen_ok]
        exact (run_loadVar_ok (P := P) w t b o i hi).2 (by simpa using hagg) ht u' (by simpa using h1 0 u' rfl)
      · simp [Prog.run] at h2
    · simp [Prog.run] at h
end
end Go.Ab
