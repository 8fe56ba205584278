/- Steps of the abstract heap: what is new, frozen, moved, handed over. No program is named here. -/
import Derived.Test.YtmfhdhiaokejdaaAb3
namespace Go.Ab
open Go
set_option linter.unusedSimpArgs false
set_option linter.unusedVariables false

/-- How a world goes on, of which blocks of I and K are known. -/
structure WX (I K : Nat → Prop) (w w' : World) : Prop where
  keep : ∀ b, I b ∨ K b → w'.heap[b]? = w.heap[b]?
  size : w.heap.size ≤ w'.heap.size
  os : w'.os = w.os
  tape : w'.tape = w.tape
  output : w'.output = w.output

theorem WX.refl (I K : Nat → Prop) (w : World) : WX I K w w := ⟨fun _ _ => rfl, Nat.le_refl _, rfl, rfl, rfl⟩
theorem WX.alloc {I K : Nat → Prop} {w : World} (o : Obj) (hi : ∀ b, I b → b < w.heap.size) (hk : ∀ b, K b → b < w.heap.size) : WX I K w (w.alloc o) where
  keep := fun b hb => by
    have hlt : b < w.heap.size := hb.elim (hi b) (hk b)
    show (w.heap.push o)[b]? = w.heap[b]?
    rw [Array.getElem?_push, if_neg (Nat.ne_of_lt hlt)]
  size := by simp
  os := rfl
  tape := rfl
  output := rfl

def SameKind : AObj → AObj → Prop
  | .no _, _ => False
  | .box g _ _, o' => ∃ cells' f', o' = .box g cells' f'
  | .arr g sz e rows _, o' => ∃ rows' f', o' = .arr g sz e rows' f' ∧ rows.length ≤ rows'.length

section
variable {I K I' : Nat → Prop} {m : Mp} {hp : Hp} {w w' : World}

theorem Ext.bump {x : Nm} {o : AObj} {p : Option (Nat × Nat)} (W : WX I K w w') (hi : ∀ b, I b → I' b) (hg : (hp x).gen < o.gen) : Ext I K m hp w I' (upd m x p) (upd hp x o) w' where
  isub := hi
  keep := W.keep
  size := W.size
  os := W.os
  tape := W.tape
  output := W.output
  gmono := fun y => by
    by_cases hy : y = x
    · subst hy; rw [upd_same]; omega
    · rw [upd_other _ _ hy]; exact Nat.le_refl _
  stable := fun y he => by
    by_cases hy : y = x
    · subst hy; rw [upd_same] at he; omega
    · rw [upd_other _ _ hy, upd_other _ _ hy]
      cases h : hp y with
      | no g => exact ⟨g, rfl⟩
      | box g c f => exact ⟨rfl, g, c, f, rfl⟩
      | arr g sz e rows f => exact ⟨rfl, g, rows, f, rfl, Nat.le_refl _⟩

theorem Ext.same {x : Nm} {o : AObj} (W : WX I K w w') (hi : ∀ b, I b → I' b) (hk : SameKind (hp x) o) : Ext I K m hp w I' m (upd hp x o) w' where
  isub := hi
  keep := W.keep
  size := W.size
  os := W.os
  tape := W.tape
  output := W.output
  gmono := fun y => by
    by_cases hy : y = x
    · subst hy; rw [upd_same]
      cases h : hp y with
      | no g => rw [h] at hk; exact hk.elim
      | box g c f => rw [h] at hk; obtain ⟨c', f', rfl⟩ := hk; exact Nat.le_refl _
      | arr g sz e rows f => rw [h] at hk; obtain ⟨r', f', rfl, _⟩ := hk; exact Nat.le_refl _
    · rw [upd_other _ _ hy]; exact Nat.le_refl _
  stable := fun y _ => by
    by_cases hy : y = x
    · subst hy; rw [upd_same]
      cases h : hp y with
      | no g => rw [h] at hk; exact hk.elim
      | box g c f => rw [h] at hk; obtain ⟨c', f', rfl⟩ := hk; exact ⟨rfl, g, c', f', rfl⟩
      | arr g sz e rows f => rw [h] at hk; obtain ⟨r', f', rfl, hl⟩ := hk; exact ⟨rfl, g, r', f', rfl, hl⟩
    · rw [upd_other _ _ hy]
      cases h : hp y with
      | no g => exact ⟨g, rfl⟩
      | box g c f => exact ⟨rfl, g, c, f, rfl⟩
      | arr g sz e rows f => exact ⟨rfl, g, rows, f, rfl, Nat.le_refl _⟩

/-- A new object under a name, whatever it was the name of. -/
theorem Gam.bump (G : Gam I K m hp w) {x : Nm} {o : AObj} {p : Option (Nat × Nat)} (W : WX I K w w') (hi : ∀ b, I b → I' b) (hg : (hp x).gen < o.gen)
    (hobj : ObjOk I' K (upd m x p) (upd hp x o) w' x o)
    (hblk : ∀ y, y ≠ x → (hp y).live = true → ∀ q, m y = some q → w'.heap[q.1]? = w.heap[q.1]?)
    (hI : ∀ y, y ≠ x → (hp y).live = true → (hp y).fz = false → ∀ q, m y = some q → ¬ I q.1 → ¬ I' q.1)
    (hne : o.live = true → ∀ r, p = some r → ∀ y, y ≠ x → (hp y).live = true → ∀ q, m y = some q → r.1 ≠ q.1)
    (ilt : ∀ b, I' b → b < w'.heap.size) (ik : ∀ b, I' b → ¬ K b) : Gam I' K (upd m x p) (upd hp x o) w' := by
  refine G.step (.bump W hi hg) (fun y => y = x) (fun y hy => ⟨upd_other _ _ hy, upd_other _ _ hy⟩) (fun y hy => by subst hy; rw [upd_same]; exact hobj) hblk hI ?_ ilt ik
  intro a b r q la lb ha hb e
  by_cases h1 : a = x <;> by_cases h2 : b = x
  · rw [h1, h2]
  · subst h1
    rw [upd_same] at la ha
    rw [upd_other _ _ h2] at lb hb
    exact (hne la r ha b h2 lb q hb e).elim
  · subst h2
    rw [upd_same] at lb hb
    rw [upd_other _ _ h1] at la ha
    exact (hne lb q hb a h1 la r ha e.symm).elim
  · rw [upd_other _ _ h1] at la ha
    rw [upd_other _ _ h2] at lb hb
    exact G.inj a b r q la lb ha hb e

/-- The same object, with other content. -/
theorem Gam.same (G : Gam I K m hp w) {x : Nm} {o : AObj} (W : WX I K w w') (hi : ∀ b, I b → I' b) (hk : SameKind (hp x) o)
    (hobj : ObjOk I' K m (upd hp x o) w' x o)
    (hblk : ∀ y, y ≠ x → (hp y).live = true → ∀ q, m y = some q → w'.heap[q.1]? = w.heap[q.1]?)
    (hI : ∀ y, y ≠ x → (hp y).live = true → (hp y).fz = false → ∀ q, m y = some q → ¬ I q.1 → ¬ I' q.1)
    (ilt : ∀ b, I' b → b < w'.heap.size) (ik : ∀ b, I' b → ¬ K b) : Gam I' K m (upd hp x o) w' := by
  refine G.step (.same W hi hk) (fun y => y = x) (fun y hy => ⟨upd_other _ _ hy, rfl⟩) (fun y hy => by subst hy; rw [upd_same]; exact hobj) hblk hI ?_ ilt ik
  have hl : ∀ y, (upd hp x o y).live = true → (hp y).live = true := fun y h => by
    by_cases hy : y = x
    · subst hy
      cases h0 : hp y with
      | no g => rw [h0] at hk; exact hk.elim
      | box g c f => rfl
      | arr g sz e rows f => rfl
    · rwa [upd_other _ _ hy] at h
  intro a b r q la lb ha hb e
  exact G.inj a b r q (hl a la) (hl b lb) ha hb e

/-- A list that holds nothing, and lies nowhere. -/
theorem Gam.virt (G : Gam I K m hp w) (x : Nm) (sz : Nat) (e : TypeId) :
    Gam I K (upd m x none) (upd hp x (.arr ((hp x).gen + 1) sz e [] false)) w ∧ Ext I K m hp w I (upd m x none) (upd hp x (.arr ((hp x).gen + 1) sz e [] false)) w := by
  have hg : (hp x).gen < (AObj.arr ((hp x).gen + 1) sz e [] false).gen := by simp [AObj.gen]
  refine ⟨G.bump (.refl I K w) (fun _ h => h) hg (.inl ⟨upd_same _ _ _, rfl⟩) (fun _ _ _ _ _ => rfl) (fun _ _ _ _ _ _ h => h) ?_ G.ilt G.ik, .bump (.refl I K w) (fun _ h => h) hg⟩
  intro _ r hr; cases hr

/-- The name of an object that is given up. -/
theorem Gam.kill (G : Gam I K m hp w) (x : Nm) {g : Nat} (hg : (hp x).gen < g) :
    Gam I K m (upd hp x (.no g)) w ∧ Ext I K m hp w I m (upd hp x (.no g)) w := by
  have e : upd m x (m x) = m := by funext y; by_cases h : y = x <;> simp [upd, h]
  have hg' : (hp x).gen < (AObj.no g).gen := hg
  have h1 := G.bump (x := x) (o := .no g) (p := m x) (.refl I K w) (fun _ h => h) hg' trivial (fun _ _ _ _ _ => rfl) (fun _ _ _ _ _ _ h => h) (fun h => by simp [AObj.live] at h) G.ilt G.ik
  have h2 : Ext I K m hp w I (upd m x (m x)) (upd hp x (.no g)) w := .bump (.refl I K w) (fun _ h => h) hg'
  rw [e] at h1 h2
  exact ⟨h1, h2⟩

/-- A list, from now on under another name. -/
theorem Gam.move (G : Gam I K m hp w) {x y : Nm} (hxy : x ≠ y) {g sz : Nat} {e : TypeId} {rows : List (List AV)} (hx : hp x = .arr g sz e rows false) :
    Gam I K (upd m y (m x)) (upd (upd hp x (.no (g + 1))) y (.arr ((hp y).gen + 1) sz e rows false)) w ∧
    Ext I K m hp w I (upd m y (m x)) (upd (upd hp x (.no (g + 1))) y (.arr ((hp y).gen + 1) sz e rows false)) w := by
  obtain ⟨G1, E1⟩ := G.kill x (g := g + 1) (by rw [hx]; simp [AObj.gen])
  have hy : (upd hp x (.no (g + 1)) y) = hp y := upd_other _ _ (Ne.symm hxy)
  have hg : (upd hp x (.no (g + 1)) y).gen < (AObj.arr ((hp y).gen + 1) sz e rows false).gen := by rw [hy]; simp [AObj.gen]
  have E2 : Ext I K m (upd hp x (.no (g + 1))) w I (upd m y (m x)) (upd (upd hp x (.no (g + 1))) y (.arr ((hp y).gen + 1) sz e rows false)) w := .bump (.refl I K w) (fun _ h => h) hg
  refine ⟨G1.bump (.refl I K w) (fun _ h => h) hg ?_ (fun _ _ _ _ _ => rfl) (fun _ _ _ _ _ _ h => h) ?_ G.ilt G.ik, E1.trans E2⟩
  · have h := G.obj x
    rw [hx] at h
    rcases h with ⟨h1, h2⟩ | ⟨b, cap, us, mk, h1, h2, h3, h4, h5, h6, h7, h8, h9⟩
    · exact .inl ⟨by rw [upd_same]; exact h1, h2⟩
    · exact .inr ⟨b, cap, us, mk, by rw [upd_same]; exact h1, h2, h3, h4, h5, h6, h7, h8, h9⟩
  · intro _ r hr z hz lz q hq e
    have hzx : z ≠ x := fun h => by subst h; rw [upd_same] at lz; simp [AObj.live] at lz
    rw [upd_other _ _ hzx] at lz
    exact hzx (G.inj x z r q (by rw [hx]; rfl) lz hr hq e).symm

/-- A list that is written no more, and which blocks are so besides. -/
theorem Gam.freeze' (G : Gam I K m hp w) {x : Nm} {g sz : Nat} {e : TypeId} {rows : List (List AV)} {f : Bool} (hx : hp x = .arr g sz e rows f) :
    ∃ I', Gam I' K m (upd hp x (.arr g sz e rows true)) w ∧ Ext I K m hp w I' m (upd hp x (.arr g sz e rows true)) w ∧ (∀ b c, m x = some (b, c) → I' b) ∧ ∀ b, I' b → I b ∨ ∃ z p, (hp z).live = true ∧ m z = some p ∧ p.1 = b := by
  have hk : SameKind (hp x) (.arr g sz e rows true) := by rw [hx]; exact ⟨rows, true, rfl, Nat.le_refl _⟩
  have h := G.obj x
  rw [hx] at h
  have hi : ∀ b, I b → (I b ∨ ∃ c, m x = some (b, c)) := fun _ h => .inl h
  refine ⟨fun b => I b ∨ ∃ c, m x = some (b, c), G.same (.refl I K w) hi hk ?_ (fun _ _ _ _ _ => rfl) ?_ ?_ ?_, .same (.refl I K w) hi hk, fun b c hc => .inr ⟨c, hc⟩, fun b hb => hb.imp id fun ⟨c, hc⟩ => ⟨x, (b, c), by rw [hx]; rfl, hc, rfl⟩⟩
  · rcases h with ⟨h1, h2⟩ | ⟨b, cap, us, mk, h1, h2, h3, h4, h5, h6, h7, h8, h9⟩
    · exact .inl ⟨h1, h2⟩
    · exact .inr ⟨b, cap, us, mk, h1, h2, h3, h4, h5, h6, RepRows.mono hi (fun _ _ => rfl) _ _ _ h7, fun _ => .inr ⟨cap, h1⟩, fun hf => by cases hf⟩
  · rintro y hy ly _ q hq hn (hq' | ⟨c, hc⟩)
    · exact hn hq'
    · exact hy (G.inj y x q (q.1, c) ly (by rw [hx]; rfl) hq hc rfl)
  · rintro b (hb | ⟨c, hc⟩)
    · exact G.ilt b hb
    · exact G.blk (x := x) (by rw [hx]; rfl) hc
  · rintro b (hb | ⟨c, hc⟩)
    · exact G.ik b hb
    · rcases h with ⟨h1, h2⟩ | ⟨b', cap, us, mk, h1, h2, h3, h4, h5, h6, h7, h8, h9⟩
      · rw [h1] at hc; cases hc
      · rw [h1] at hc; cases hc
        cases f with
        | true => exact G.ik _ (h8 rfl)
        | false => exact (h9 rfl).2

/-- A list that is written no more. -/
theorem Gam.freeze (G : Gam I K m hp w) {x : Nm} {g sz : Nat} {e : TypeId} {rows : List (List AV)} {f : Bool} (hx : hp x = .arr g sz e rows f) :
    ∃ I', Gam I' K m (upd hp x (.arr g sz e rows true)) w ∧ Ext I K m hp w I' m (upd hp x (.arr g sz e rows true)) w ∧ ∀ b c, m x = some (b, c) → I' b :=
  let ⟨I', h1, h2, h3, _⟩ := G.freeze' hx
  ⟨I', h1, h2, h3⟩

/-- A box that is written no more. -/
theorem Gam.freezeBox (G : Gam I K m hp w) {x : Nm} {g : Nat} {cells : List AV} {f : Bool} (hx : hp x = .box g cells f)
    (hd : ∀ us, RepL x.d I m hp w cells us → RepDL I w cells us) :
    ∃ I', Gam I' K m (upd hp x (.box g cells true)) w ∧ Ext I K m hp w I' m (upd hp x (.box g cells true)) w ∧ ∀ b c, m x = some (b, c) → I' b := by
  have hk : SameKind (hp x) (.box g cells true) := by rw [hx]; exact ⟨cells, true, rfl⟩
  have h := G.obj x
  rw [hx] at h
  obtain ⟨b, c, us, T, mk, h1, h2, h3, h4, h5, h6⟩ := h
  have hi : ∀ b, I b → (I b ∨ ∃ c, m x = some (b, c)) := fun _ h => .inl h
  have E : Ext I K m hp w (fun b => I b ∨ ∃ c, m x = some (b, c)) m (upd hp x (.box g cells true)) w := .same (.refl I K w) hi hk
  refine ⟨fun b => I b ∨ ∃ c, m x = some (b, c), G.same (.refl I K w) hi hk ?_ (fun _ _ _ _ _ => rfl) ?_ ?_ ?_, E, fun b c hc => .inr ⟨c, hc⟩⟩
  · exact ⟨b, c, us, T, mk, h1, h2, h3, RepL.mono E _ _ _ h4, fun _ => ⟨.inr ⟨c, h1⟩, RepDL.mono hi (fun _ _ => rfl) _ _ (hd _ h4)⟩, fun hf => by cases hf⟩
  · rintro y hy ly _ q hq hn (hq' | ⟨c, hc⟩)
    · exact hn hq'
    · exact hy (G.inj y x q (q.1, c) ly (by rw [hx]; rfl) hq hc rfl)
  · rintro b (hb | ⟨c, hc⟩)
    · exact G.ilt b hb
    · exact G.blk (x := x) (by rw [hx]; rfl) hc
  · rintro b' (hb | ⟨c', hc⟩)
    · exact G.ik b' hb
    · rw [h1] at hc; cases hc
      cases f with
      | true => exact G.ik _ (h5 rfl).1
      | false => exact (h6 rfl).2

/-! ### programs over the abstract heap -/
theorem run_bind {α β : Type} (p : Prog α) (f : α → Prog β) : ∀ hp : Hp, (p.bind f).run hp = match p.run hp with | some (a, hp') => (f a).run hp' | none => none := by
  induction p with
  | ret a => intro hp; rfl
  | get x k ih => intro hp; exact ih _ hp
  | put x o k ih => intro hp; exact ih _
  | hdr x k ih => intro hp; exact ih _ hp
  | getC x off k ih =>
    intro hp
    simp only [Prog.bind, Prog.run]
    cases cellOf (hp x) off with
    | none => rfl
    | some v => exact ih v hp
  | putC x off v k ih =>
    intro hp
    simp only [Prog.bind, Prog.run]
    cases setCellOf (hp x) off v with
    | none => rfl
    | some o => exact ih _
  | ext g k ih =>
    intro hp
    simp only [Prog.bind, Prog.run]
    cases g hp with
    | none => rfl
    | some q => exact ih _ _
  | fail => intro hp; rfl
theorem run_bind_some {α β : Type} {p : Prog α} {f : α → Prog β} {hp hp' : Hp} {b : β} (h : (p.bind f).run hp = some (b, hp')) : ∃ a hp1, p.run hp = some (a, hp1) ∧ (f a).run hp1 = some (b, hp') := by
  rw [run_bind] at h
  cases hr : p.run hp with
  | none => rw [hr] at h; cases h
  | some q => obtain ⟨a, hp1⟩ := q; rw [hr] at h; exact ⟨a, hp1, rfl, h⟩

theorem drop_head {α : Type} {l : List α} {i : Nat} {a : α} (h : l[i]? = some a) : l.drop i = a :: l.drop (i + 1) := by
  obtain ⟨hi, rfl⟩ := List.getElem?_eq_some_iff.1 h
  exact List.drop_eq_getElem_cons hi
theorem run_getCs {x : Nm} {g : Nat} {cells : List AV} {f : Bool} (hx : hp x = .box g cells f) : ∀ n off, off + n ≤ cells.length → (getCs x off n).run hp = some ((cells.drop off).take n, hp)
  | 0, off, _ => by simp [getCs, Prog.run]
  | n + 1, off, h => by
    have hc : cells[off]? = some cells[off] := List.getElem?_eq_getElem (by omega)
    simp only [getCs, Prog.run, hx, cellOf, hc, run_bind, run_getCs hx n (off + 1) (by omega), drop_head hc, List.take_succ_cons]
theorem splice_nil (l : List AV) (off : Nat) : splice l off [] = l := by
  unfold splice
  split
  · rename_i e
    exact (List.eq_nil_of_length_eq_zero (by simpa using e.symm)).symm
  · simp
theorem splice_cons (l : List AV) (off : Nat) (v : AV) (vs : List AV) (h : off + (vs.length + 1) ≤ l.length) : splice (l.set off v) (off + 1) vs = splice l off (v :: vs) := by
  have e1 : ∀ (l : List AV) (off : Nat) (vs : List AV), off + vs.length ≤ l.length → splice l off vs = l.take off ++ vs ++ l.drop (off + vs.length) := fun l off vs h => by
    unfold splice
    split
    · have e0 : off = 0 := by omega
      subst e0
      have hd : l.drop (0 + vs.length) = [] := by rw [List.drop_eq_nil_iff]; omega
      rw [hd]; simp
    · rfl
  rw [e1 _ _ _ (by simp; omega), e1 _ _ _ (by simp; omega)]
  have hlt : off < l.length := by omega
  have hs : (l.set off v).take (off + 1) = l.take off ++ [v] := by
    rw [List.take_succ_eq_append_getElem (by simpa using hlt), List.take_set_of_le (Nat.le_refl _)]
    simp
  rw [hs, List.drop_set_of_lt (by omega)]
  simp [Nat.add_assoc, Nat.add_comm 1]
theorem run_putCs {x : Nm} {g : Nat} {f : Bool} : ∀ (vs : List AV) (off : Nat) (cells : List AV) (hp : Hp), hp x = .box g cells f → off + vs.length ≤ cells.length →
    ∃ hp', (putCs x off vs).run hp = some (.any, hp') ∧ hp' = upd hp x (.box g (splice cells off vs) f)
  | [], off, cells, hp, hx, _ => by
    refine ⟨hp, rfl, ?_⟩
    rw [splice_nil cells off, ← hx]
    funext y; by_cases hy : y = x <;> simp [upd, hy]
  | v :: vs, off, cells, hp, hx, h => by
    have hlt : off < cells.length := by simp at h; omega
    obtain ⟨hp', h1, h2⟩ := run_putCs vs (off + 1) (cells.set off v) (upd hp x (.box g (cells.set off v) f)) (upd_same _ _ _) (by simp at h ⊢; omega)
    refine ⟨hp', by simp only [putCs, Prog.run, hx, setCellOf, hlt, if_true, h1], ?_⟩
    rw [h2, splice_cons cells off v vs (by simp at h; omega)]
    funext y; by_cases hy : y = x <;> simp [upd, hy]

/-- What is owned reads as its rows. -/
theorem Gam.ownRows (G : Gam I K m hp w) {D : Nat} {x : Nm} {g n sz : Nat} {e : TypeId} {rows : List (List AV)} {f : Bool} {u : Value} (hx : hp x = .arr g sz e rows f) (h : Rep D I m hp w (.own x g n) u) :
    n ≤ rows.length ∧ u.oneCell' = true ∧ ∀ J : Nat → Prop, (∀ b, I b → J b) → (∀ b c, m x = some (b, c) → J b) → RepD J w (.sl false sz (rows.take n)) u := by
  simp only [Rep] at h
  obtain ⟨_, _, h⟩ := h
  obtain ⟨hn, h⟩ := h sz e rows f hx
  have ho := G.obj x
  rw [hx] at ho
  refine ⟨hn, ?_, fun J hJ hb => ?_⟩
  · rcases h with ⟨_, rfl, _⟩ | ⟨b, cap, _, rfl⟩ <;> rfl
  · rcases h with ⟨h0, rfl, rfl⟩ | ⟨b, cap, hm, rfl⟩
    · simp only [RepD]
      exact ⟨none, 0, by simp, by simp, by simp [maxLen], by simp, .inl (by simp)⟩
    · rcases ho with ⟨h1, h2⟩ | ⟨b', cap', us, mk, h1, h2, h3, h4, h5, h6, h7, h8, h9⟩
      · rw [h1] at hm; cases hm
      · rw [h1] at hm; cases hm
        simp only [RepD]
        refine ⟨_, _, by rw [List.length_take, Nat.min_eq_left hn], by rw [List.length_take]; omega, h6, by simp, .inr ⟨b, 0, us.toList.take (n * sz), rfl, hb b cap h1, ?_, ?_⟩⟩
        · intro j v hv
          rw [List.getElem?_take] at hv
          split at hv
          · rw [Nat.zero_add, cell_of_row w b j us e mk h2]
            simpa using hv
          · cases hv
        · have h7' := (RepRows_iff _ _).1 h7
          refine RepRows.mono hJ (fun _ _ => rfl) _ _ _ ((RepRows_iff _ _).2 ⟨h7'.1.take n, ?_⟩)
          rw [h7'.1.flatten_take]
          have := h7'.2.take (n * sz)
          rwa [List.take_take, Nat.min_eq_left (Nat.mul_le_mul_right _ hn)] at this
end
end Go.Ab
