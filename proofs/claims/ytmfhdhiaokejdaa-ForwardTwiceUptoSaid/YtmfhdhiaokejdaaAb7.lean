/- New memory, stores, appends: the programs of Ab2 for these, held against the worlds. No program of Go is named here. -/
import Derived.Test.YtmfhdhiaokejdaaAb6
namespace Go.Ab
open Go
set_option linter.unusedSimpArgs false
set_option linter.unusedVariables false

section
variable {P : Program} {I K : Nat → Prop} {m : Mp} {hp hp' : Hp} {w : World} {k : Nat}

/-- A block of which nobody knows yet. -/
theorem Gam.fresh (G : Gam I K m hp w) : ¬ I w.heap.size ∧ ¬ K w.heap.size := ⟨fun h => Nat.lt_irrefl _ (G.ilt _ h), fun h => Nat.lt_irrefl _ (G.klt _ h)⟩

theorem WX.draw {I K : Nat → Prop} {w w' : World} (h : WX I K w w') : WX I K w w'.drew := ⟨h.keep, h.size, h.os, h.tape, h.output⟩

theorem heap_new (w : World) (o : Obj) : (w.alloc o).heap[w.heap.size]? = some o := by
  show (w.heap.push o)[w.heap.size]? = some o
  simp
theorem heap_old (w : World) (o : Obj) {b : Nat} (h : b < w.heap.size) : (w.alloc o).heap[b]? = w.heap[b]? := by
  show (w.heap.push o)[b]? = w.heap[b]?
  rw [Array.getElem?_push, if_neg (Nat.ne_of_lt h)]
theorem size_new (w : World) (o : Obj) : (w.alloc o).heap.size = w.heap.size + 1 := by
  show (w.heap.push o).size = _
  simp

/-- A new block, under a name: what is asked is that the object is well formed. -/
theorem Gam.alloc (G : Gam I K m hp w) {x : Nm} {o : AObj} (ob : Obj) (c : Nat) (hg : (hp x).gen < o.gen)
    (hobj : ∀ w' m', w'.heap[w.heap.size]? = some ob → m' x = some (w.heap.size, c) → Ext I K m hp w I m' (upd hp x o) w' → ObjOk I K m' (upd hp x o) w' x o)
    {w1 : World} (h1 : w1 = w.alloc ob ∨ w1 = w.drew.alloc ob) :
    Gam I K (upd m x (some (w.heap.size, c))) (upd hp x o) w1 ∧ Ext I K m hp w I (upd m x (some (w.heap.size, c))) (upd hp x o) w1 := by
  have hW : WX I K w w1 := by
    rcases h1 with rfl | rfl
    · exact .alloc ob G.ilt G.klt
    · have h := WX.alloc (w := w.drew) ob G.ilt G.klt
      exact ⟨h.keep, h.size, h.os, h.tape, h.output⟩
  have hnew : w1.heap[w.heap.size]? = some ob := by
    rcases h1 with rfl | rfl
    · exact heap_new w ob
    · exact heap_new w.drew ob
  have hold : ∀ b, b < w.heap.size → w1.heap[b]? = w.heap[b]? := fun b hb => by
    rcases h1 with rfl | rfl
    · exact heap_old w ob hb
    · exact heap_old w.drew ob hb
  have E : Ext I K m hp w I (upd m x (some (w.heap.size, c))) (upd hp x o) w1 := .bump hW (fun _ h => h) hg
  refine ⟨G.bump hW (fun _ h => h) hg (hobj w1 _ hnew (upd_same _ _ _) E) (fun y _ hl q hq => hold _ (G.blk hl hq)) (fun _ _ _ _ _ _ h => h) ?_ (fun b hb => Nat.lt_of_lt_of_le (G.ilt b hb) hW.size) G.ik, E⟩
  intro _ r hr y _ hl q hq e
  cases hr
  exact Nat.lt_irrefl _ (e ▸ G.blk hl hq)

theorem noMark0 (us : Array Value) : NoMark us (0, 0) := fun j _ => by simp

theorem newBox_ok {D : Nat} (G : Gam I K m hp w) {i : Nat} {t : TypeId} {cells : List AV} {us : List Value} {v : AV} (hr : AllR (Rep D I m hp w) cells us) (h : (newBox P k i t cells).run hp = some (v, hp')) :
    ∃ I' m', Gam I' K m' hp' (w.alloc (.cells ⟨us⟩ t)) ∧ Ext I K m hp w I' m' hp' (w.alloc (.cells ⟨us⟩ t)) ∧ Rep k I' m' hp' (w.alloc (.cells ⟨us⟩ t)) v (.pointer (some ⟨w.heap.size, 0, none⟩)) := by
  unfold newBox at h
  split at h
  · obtain ⟨cs, hp1, r1, h2⟩ := run_bind_some h
    clear h
    obtain ⟨I1, m1, G1, E1, d1, _⟩ := settleL_ok G hr r1
    simp only [Prog.run, Option.some.injEq, Prod.mk.injEq] at h2
    obtain ⟨rfl, rfl⟩ := h2
    obtain ⟨G2, E2⟩ := G1.alloc (x := ⟨k, i, 0⟩) (o := .box ((hp1 ⟨k, i, 0⟩).gen + 1) cs false) (.cells ⟨us⟩ t) 0 (by simp [AObj.gen])
      (fun w' m' hb hm E => ⟨w.heap.size, 0, ⟨us⟩, t, (0, 0), hm, hb, noMark0 _, (RepL_iff _ _).2 (d1.imp fun a u h => Rep.mono E _ a u h), fun h => (by cases h), fun _ => G1.fresh⟩) (.inl rfl)
    refine ⟨I1, _, G2, E1.trans E2, ?_⟩
    simp only [Rep]
    refine ⟨Nat.le_refl _, by rw [upd_same]; exact Nat.le_refl _, fun cells fz hx => ⟨w.heap.size, 0, upd_same _ _ _, rfl⟩⟩
  · simp [Prog.run] at h

/-- A new list. -/
theorem newArr_ok (G : Gam I K m hp w) {y : Nm} (hy : y.d ≤ k) {sz : Nat} {e : TypeId} {rows : List (List AV)} {us : List Value} {cap : Nat} {mk : Nat × Nat} {v : AV}
    (hm : NoMark ⟨us⟩ mk) (hsz : us.length = cap * sz) (hl : rows.length ≤ cap) (hc : cap ≤ maxLen) (hr : RepRows I w sz rows (us.take (rows.length * sz)))
    (h : (newArr y sz e rows).run hp = some (v, hp')) {w1 : World} (h1 : w1 = w.alloc (.cells ⟨us⟩ e mk) ∨ w1 = w.drew.alloc (.cells ⟨us⟩ e mk)) :
    ∃ m', Gam I K m' hp' w1 ∧ Ext I K m hp w I m' hp' w1 ∧ Rep k I m' hp' w1 v (.slice (some ⟨w.heap.size, 0, none⟩) rows.length cap) := by
  simp only [newArr, Prog.run, Option.some.injEq, Prod.mk.injEq] at h
  obtain ⟨rfl, rfl⟩ := h
  obtain ⟨G2, E2⟩ := G.alloc (x := y) (o := .arr ((hp y).gen + 1) sz e rows false) (.cells ⟨us⟩ e mk) cap (by simp [AObj.gen])
    (fun w' m' hb hm' E => .inr ⟨w.heap.size, cap, ⟨us⟩, mk, hm', hb, hm, by simpa using hsz, hl, hc, RepRows.mono E.isub (fun b hb => E.keep b (.inl hb)) _ _ _ hr, fun h => (by cases h), fun _ => G.fresh⟩) h1
  refine ⟨_, G2, E2, ?_⟩
  simp only [Rep]
  refine ⟨hy, by rw [upd_same]; exact Nat.le_refl _, fun sz' e' rows' fz hx => ?_⟩
  rw [upd_same] at hx
  cases hx
  exact ⟨Nat.le_refl _, .inr ⟨_, _, upd_same _ _ _, rfl⟩⟩

/-- A block that one live object alone knows, written. -/
theorem WX.setRow {g : Nat} {us : Array Value} (hi : ¬ I g) (hk : ¬ K g) : WX I K w (w.setRow g us) where
  keep := fun b hb => setRow_other w g b us (fun e => by subst e; exact hb.elim hi hk)
  size := by simp [World.setRow]
  os := rfl
  tape := rfl
  output := rfl

theorem seg_eq (L vs : List Value) (a off sz N : Nat) (h1 : off + vs.length ≤ sz) (h2 : a + sz ≤ N) (h3 : N ≤ L.length) :
    List.take N (L.take (a + off) ++ vs ++ L.drop (a + off + vs.length)) =
      List.take a (L.take N) ++ (List.take off (List.take sz (List.drop a (L.take N))) ++ vs ++ List.drop (off + vs.length) (List.take sz (List.drop a (L.take N)))) ++ List.drop (a + sz) (L.take N) := by
  apply List.ext_getElem?
  intro j
  simp only [List.getElem?_append, List.getElem?_take, List.getElem?_drop, List.length_take, List.length_drop, List.length_append]
  by_cases c1 : j < a
  · simp only [c1, show j < N by omega, show j < min (a + off) L.length by omega, show j < min (a + off) L.length + vs.length by omega, show j < a + off by omega, show j < min a (min N L.length) by omega,
      show j < min a (min N L.length) + (min off (min sz (min N L.length - a)) + vs.length + (min sz (min N L.length - a) - (off + vs.length))) by omega, if_true]
  · have e1 : min a (min N L.length) = a := by omega
    have e2 : min sz (min N L.length - a) = sz := by omega
    have e3 : min off sz = off := by omega
    have e4 : min (a + off) L.length = a + off := by omega
    simp only [e1, e2, e3, e4, c1, if_false]
    by_cases c2 : j < a + off
    · simp only [c2, show j < N by omega, show j < a + off + vs.length by omega, show j < a + (off + vs.length + (sz - (off + vs.length))) by omega, show j - a < off + vs.length by omega, show j - a < off by omega, show j - a < sz by omega, show a + (j - a) < N by omega, if_true]
      congr 1; omega
    · by_cases c3 : j < a + off + vs.length
      · simp only [c2, c3, show j < N by omega, show j < a + (off + vs.length + (sz - (off + vs.length))) by omega, show j - a < off + vs.length by omega, show ¬ (j - a < off) by omega, if_true, if_false]
        congr 1; omega
      · by_cases c4 : j < a + sz
        · simp only [c2, c3, show j < N by omega, show j < a + (off + vs.length + (sz - (off + vs.length))) by omega, show ¬ (j - a < off + vs.length) by omega, show off + vs.length + (j - a - (off + vs.length)) < sz by omega, show a + (off + vs.length + (j - a - (off + vs.length))) < N by omega, if_true, if_false]
          congr 1; omega
        · by_cases c5 : j < N
          · simp only [c2, c3, c5, show ¬ (j < a + (off + vs.length + (sz - (off + vs.length)))) by omega, show a + sz + (j - (a + (off + vs.length + (sz - (off + vs.length))))) < N by omega, if_true, if_false]
            congr 1; omega
          · simp only [c5, show ¬ (j < a + (off + vs.length + (sz - (off + vs.length)))) by omega, show ¬ (a + sz + (j - (a + (off + vs.length + (sz - (off + vs.length))))) < N) by omega, if_false]

theorem store_ok (G : Gam I K m hp w) {t : TypeId} {a v x : AV} {ua uv : Value} (hra : Rep k I m hp w a ua) (hrv : AllR (Rep k I m hp w) (cellsA v) uv.cells.toList)
    (h : (storeP P t a v).run hp = some (x, hp')) (hinfo : (P.info? t).isSome) :
    x = .any ∧ ∃ w' I' m', (Instr.storeAt t ua uv).run P w = .ok () w' ∧ Gam I' K m' hp' w' ∧ Ext I K m hp w I' m' hp' w' := by
  obtain ⟨i, hi⟩ := Option.isSome_iff_exists.1 hinfo
  have hcs : P.cellsOf t = i.size := by simp [Program.cellsOf, hi]
  unfold storeP at h
  simp only at h
  split at h
  · rename_i hlen
    split at h
    · rename_i x g off
      obtain ⟨vs', hp1, r1, h2⟩ := run_bind_some h
      clear h
      obtain ⟨I1, m1, G1, E1, d1, o1⟩ := settleL_ok G hrv r1
      have hra' := Rep.mono E1 _ _ _ hra
      simp only [Prog.run] at h2
      cases hx : hp1 x with
      | no g' => rw [hx] at h2; simp [Prog.run, AObj.head] at h2
      | arr g' sz e rows f => rw [hx] at h2; simp [Prog.run, AObj.head] at h2
      | box g' cells f =>
        rw [hx] at h2
        simp only [AObj.head] at h2
        split at h2
        · rename_i hc
          obtain ⟨rfl, rfl, hle⟩ := hc
          obtain ⟨hp2, p1, p2⟩ := run_putCs vs' off cells hp1 hx hle
          rw [p1] at h2
          simp only [Option.some.injEq, Prod.mk.injEq] at h2
          obtain ⟨rfl, rfl⟩ := h2
          subst p2
          refine ⟨rfl, ?_⟩
          simp only [Rep] at hra'
          obtain ⟨hd, _, hra'⟩ := hra'
          obtain ⟨b, c, hmx, rfl⟩ := hra' cells false hx
          have ho := G1.obj x
          rw [hx] at ho
          obtain ⟨b', c', us, T, mk, h1, h2, h3, h4, h5, h6⟩ := ho
          rw [h1] at hmx; cases hmx
          have h4' := (RepL_iff _ _).1 h4
          have hst := run_storeVar_ok (P := P) w t b off i hi uv us T mk h2 h3 (by have := hrv.1; simp at this; omega) (by have := h4'.1; have := d1.1; simp at this; simp at *; omega) o1
          refine ⟨_, I1, m1, by simp only [Instr.storeAt, Instr.sureAddr, Sem.run_bind, Sem.run_pure, Result.andThen_ok]; exact hst, ?_⟩
          have hk : SameKind (hp1 x) (.box g' (splice cells off vs') false) := by rw [hx]; exact ⟨_, _, rfl⟩
          obtain ⟨hni, hnk⟩ := h6 rfl
          have E2 : Ext I1 K m1 hp1 w I1 m1 (upd hp1 x (.box g' (splice cells off vs') false)) (w.setRow b (us.toList.take off ++ uv.cells.toList ++ us.toList.drop (off + uv.cells.size)).toArray) := .same (.setRow hni hnk) (fun _ h => h) hk
          refine ⟨G1.same (.setRow hni hnk) (fun _ h => h) hk ?_ (fun y hy hl q hq => setRow_other w b q.1 _ (fun e => hy (G1.inj y x q (b, c) hl (by rw [hx]; rfl) hq h1 e))) (fun _ _ _ _ _ _ h => h) (fun b hb => by have := G1.ilt b hb; simpa [World.setRow] using this) G1.ik, E1.trans E2⟩
          refine ⟨b, c, _, T, mk, h1, setRow_heap w b us _ T mk h2, fun j hj => h3 j ?_, ?_, fun h => (by cases h), fun _ => ⟨hni, hnk⟩⟩
          · have hl := d1.1
            have := h4'.1
            simp at hj hl this ⊢
            omega
          · rw [RepL_iff]
            have hsp := (h4'.imp fun a u h => Rep.mono E2 _ a u h).splice ((d1.imp fun a u h => Rep.depth (Nat.le_refl _) a u (Rep.mono E2 _ a u h))) off hle
            simpa using hsp
        · simp [Prog.run] at h2
    · rename_i x g i' off
      obtain ⟨vs', hp1, r1, h2⟩ := run_bind_some h
      clear h
      obtain ⟨I1, G1, E1, d1⟩ := toDatL_frz G hrv r1
      have hra' := Rep.mono E1 _ _ _ hra
      simp only [Prog.run] at h2
      cases hx : hp1 x with
      | no g' => rw [hx] at h2; simp [Prog.run] at h2
      | box g' c f => rw [hx] at h2; simp [Prog.run] at h2
      | arr g' sz e rows f =>
        rw [hx] at h2
        simp only at h2
        split at h2
        · rename_i hc
          obtain ⟨rfl, rfl⟩ := hc
          split at h2
          · rename_i r hri
            split at h2
            · rename_i hle
              simp only [Prog.run, Option.some.injEq, Prod.mk.injEq] at h2
              obtain ⟨rfl, rfl⟩ := h2
              refine ⟨rfl, ?_⟩
              simp only [Rep] at hra'
              obtain ⟨hd, _, hra'⟩ := hra'
              obtain ⟨b, c, hmx, rfl⟩ := hra' sz e rows false hx
              have ho := G1.obj x
              rw [hx] at ho
              have hilt : i' < rows.length := (List.getElem?_eq_some_iff.1 hri).1
              rcases ho with ⟨h1, _⟩ | ⟨b', cap, us, mk, h1, h2, h3, h4, h5, h6, h7, h8, h9⟩
              · rw [h1] at hmx; cases hmx
              · rw [h1] at hmx; cases hmx
                obtain ⟨he, ha⟩ := (RepRows_iff _ _).1 h7
                have hrl : r.length = sz := he r (List.mem_of_getElem? hri)
                have hvl : vs'.length = uv.cells.size := by have := d1.1; simpa using this
                have hbd : i' * sz + sz ≤ rows.length * sz := by
                  have := Nat.mul_le_mul_right sz (show i' + 1 ≤ rows.length from hilt)
                  rw [Nat.add_mul, Nat.one_mul] at this; exact this
                have hcapb : rows.length * sz ≤ us.size := by rw [h4]; exact Nat.mul_le_mul_right _ h5
                have hst := run_storeVar_ok (P := P) w t b (i' * sz + off) i hi uv us e mk h2 h3 (by have := hrv.1; simp at this; omega) (by omega) d1.one
                refine ⟨_, I1, m, by simp only [Instr.storeAt, Instr.sureAddr, Sem.run_bind, Sem.run_pure, Result.andThen_ok]; exact hst, ?_⟩
                have hk : SameKind (hp1 x) (.arr g' sz e (rows.set i' (splice r off vs')) false) := by rw [hx]; exact ⟨_, _, rfl, by simp⟩
                obtain ⟨hni, hnk⟩ := h9 rfl
                have E2 : Ext I1 K m hp1 w I1 m (upd hp1 x (.arr g' sz e (rows.set i' (splice r off vs')) false)) (w.setRow b (us.toList.take (i' * sz + off) ++ uv.cells.toList ++ us.toList.drop (i' * sz + off + uv.cells.size)).toArray) := .same (.setRow hni hnk) (fun _ h => h) hk
                refine ⟨G1.same (.setRow hni hnk) (fun _ h => h) hk ?_ (fun y hy hl q hq => setRow_other w b q.1 _ (fun e => hy (G1.inj y x q (b, c) hl (by rw [hx]; rfl) hq h1 e))) (fun _ _ _ _ _ _ h => h) (fun b hb => by have := G1.ilt b hb; simpa [World.setRow] using this) G1.ik, E1.trans E2⟩
                refine .inr ⟨b, c, _, mk, h1, setRow_heap w b us _ e mk h2, fun j hj => h3 j ?_, ?_, by simpa using h5, h6, ?_, fun h => (by cases h), fun _ => ⟨hni, hnk⟩⟩
                · simp at hj ⊢; omega
                · simp; omega
                · refine RepRows.mono E2.isub (fun b hb => E2.keep b (.inl hb)) _ _ _ ((RepRows_iff _ _).2 ⟨he.set ?_, ?_⟩)
                  · unfold splice; split
                    · omega
                    · simp; omega
                  · rw [flatten_set he hilt]
                    have a1 := ha.take (i' * sz)
                    have a2 := ha.drop (i' * sz + sz)
                    have a3 := ((ha.drop (i' * sz)).take sz)
                    rw [he.row hri] at a3
                    have a4 := a3.splice d1 off hle
                    have a5 := (a1.append a4).append a2
                    have e1 := seg_eq us.toList uv.cells.toList (i' * sz) off sz (rows.length * sz) (by rw [← hrl]; have := hvl; simp at this ⊢; omega) hbd (by simpa using hcapb)
                    rw [List.length_set]
                    simp only [Array.length_toList] at e1 a5 ⊢
                    rw [e1]
                    exact a5
            · simp [Prog.run] at h2
          · simp [Prog.run] at h2
        · simp [Prog.run] at h2
    · simp [Prog.run] at h
  · simp [Prog.run] at h
end
end Go.Ab
