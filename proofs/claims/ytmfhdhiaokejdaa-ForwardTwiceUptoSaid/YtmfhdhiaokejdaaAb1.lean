/- Abstract values for the walk: definitions, what they stand for in a world, and that this stays as a world goes on. No program is named here. -/
import Derived.WalkKit
import Derived.Deep.Draws
namespace Go.Ab
open Go
set_option linter.unusedSimpArgs false
set_option linter.unusedVariables false

/-- A name of an object of a call: the depth of the call, the slot, and 0, or 1 more than the cell of the slot's object in which a slice lies. -/
structure Nm where
  d : Nat
  i : Nat
  c : Nat
deriving DecidableEq

/-- What a cell, or a slot, holds. -/
inductive AV where
  | any
  | sc (v : Value)
  | sl (full : Bool) (sz : Nat) (rows : List (List AV))
  | dp (cells : List AV) (off : Nat)
  | own (x : Nm) (g n : Nat)
  | ptr (x : Nm) (g off : Nat)
  | eptr (x : Nm) (g i off : Nat)
  | agg (cs : List AV)
  | tup (vs : List AV)
  | vec (sz : Nat) (rows : List (List AV))
  | fn (f : Nat) (caps : List AV)

inductive AObj where
  | no (g : Nat)
  | box (g : Nat) (cells : List AV) (fz : Bool)
  | arr (g sz : Nat) (e : TypeId) (rows : List (List AV)) (fz : Bool)

def AObj.gen : AObj → Nat
  | .no g => g
  | .box g _ _ => g
  | .arr g _ _ _ _ => g

def AObj.live : AObj → Bool
  | .no _ => false
  | _ => true

abbrev Hp := Nm → AObj
/-- Where an object lies: its block, and (of an array) how many rows the block has room for. -/
abbrev Mp := Nm → Option (Nat × Nat)

def upd {α : Type} (hp : Nm → α) (x : Nm) (o : α) : Nm → α := fun y => if y = x then o else hp y
theorem upd_same {α : Type} (hp : Nm → α) (x : Nm) (o : α) : upd hp x o x = o := by simp [upd]
theorem upd_other {α : Type} (hp : Nm → α) {x y : Nm} (o : α) (h : y ≠ x) : upd hp x o y = hp y := by simp [upd, h]

/-- In the world w the cells from offset o of block b on are these. -/
def CellsAt (w : World) (b o : Nat) (us : List Value) : Prop := ∀ j v, us[j]? = some v → w.cell? ⟨b, o + j, none⟩ = some v

mutual
/-- Data that stay as they are: all in blocks of I. -/
def RepD (I : Nat → Prop) (w : World) : AV → Value → Prop
  | .sc v, u => u = v ∧ v.oneCell' = true
  | .sl full sz rows, u => ∃ A cap, u = .slice A rows.length cap ∧ rows.length ≤ cap ∧ cap ≤ maxLen ∧ (full = true → cap = rows.length) ∧
      (rows = [] ∨ ∃ b o us, A = some ⟨b, o, none⟩ ∧ I b ∧ CellsAt w b o us ∧ RepRows I w sz rows us)
  | .dp cells off, u => ∃ b o us, u = .pointer (some ⟨b, o + off, none⟩) ∧ I b ∧ CellsAt w b o us ∧ RepDL I w cells us
  | _, _ => False
def RepDL (I : Nat → Prop) (w : World) : List AV → List Value → Prop
  | [], us => us = []
  | a :: as, us => ∃ v vs, us = v :: vs ∧ RepD I w a v ∧ RepDL I w as vs
def RepRows (I : Nat → Prop) (w : World) (sz : Nat) : List (List AV) → List Value → Prop
  | [], us => us = []
  | r :: rs, us => ∃ u1 u2, us = u1 ++ u2 ∧ u1.length = sz ∧ RepDL I w r u1 ∧ RepRows I w sz rs u2
end

mutual
def Rep (D : Nat) (I : Nat → Prop) (m : Mp) (hp : Hp) (w : World) : AV → Value → Prop
  | .any, _ => True
  | .own x g n, u => x.d ≤ D ∧ g ≤ (hp x).gen ∧ ∀ sz e rows fz, hp x = .arr g sz e rows fz → n ≤ rows.length ∧
      ((m x = none ∧ u = .slice none 0 0 ∧ n = 0) ∨ ∃ b cap, m x = some (b, cap) ∧ u = .slice (some ⟨b, 0, none⟩) n cap)
  | .ptr x g off, u => x.d ≤ D ∧ g ≤ (hp x).gen ∧ ∀ cells fz, hp x = .box g cells fz → ∃ b c, m x = some (b, c) ∧ u = .pointer (some ⟨b, off, none⟩)
  | .eptr x g i off, u => x.d ≤ D ∧ g ≤ (hp x).gen ∧ ∀ sz e rows fz, hp x = .arr g sz e rows fz → ∃ b c, m x = some (b, c) ∧ u = .pointer (some ⟨b, i * sz + off, none⟩)
  | .agg cs, u => ∃ us, u = .agg ⟨us⟩ ∧ RepL D I m hp w cs us
  | .tup cs, u => ∃ us, u = .tuple ⟨us⟩ ∧ RepL D I m hp w cs us
  | .fn f caps, u => ∃ us, u = .func (.func f) #[] ⟨us⟩ ∧ RepL D I m hp w caps us
  | .vec _ _, _ => False
  | .sc v, u => u = v
  | .sl full sz rows, u => RepD I w (.sl full sz rows) u
  | .dp cells off, u => RepD I w (.dp cells off) u
def RepL (D : Nat) (I : Nat → Prop) (m : Mp) (hp : Hp) (w : World) : List AV → List Value → Prop
  | [], us => us = []
  | a :: as, us => ∃ v vs, us = v :: vs ∧ Rep D I m hp w a v ∧ RepL D I m hp w as vs
end

/-- No cell of the block bears a mark. -/
def NoMark (us : Array Value) (mk : Nat × Nat) : Prop := ∀ j, j < us.size → (mk.1 ≤ j && j < mk.2) = false

def ObjOk (I K : Nat → Prop) (m : Mp) (hp : Hp) (w : World) (x : Nm) : AObj → Prop
  | .no _ => True
  | .box _ cells fz => ∃ b c us T mk, m x = some (b, c) ∧ w.heap[b]? = some (.cells us T mk) ∧ NoMark us mk ∧ RepL x.d I m hp w cells us.toList ∧
      (fz = true → I b ∧ RepDL I w cells us.toList) ∧ (fz = false → ¬ I b ∧ ¬ K b)
  | .arr _ sz e rows fz => (m x = none ∧ rows = []) ∨ ∃ b cap us mk, m x = some (b, cap) ∧ w.heap[b]? = some (.cells us e mk) ∧ NoMark us mk ∧ us.size = cap * sz ∧
      rows.length ≤ cap ∧ cap ≤ maxLen ∧ RepRows I w sz rows (us.toList.take (rows.length * sz)) ∧ (fz = true → I b) ∧ (fz = false → ¬ I b ∧ ¬ K b)

/-- What the abstract heap says of a world. -/
structure Gam (I K : Nat → Prop) (m : Mp) (hp : Hp) (w : World) : Prop where
  obj : ∀ x, ObjOk I K m hp w x (hp x)
  inj : ∀ x y p q, (hp x).live = true → (hp y).live = true → m x = some p → m y = some q → p.1 = q.1 → x = y
  ilt : ∀ b, I b → b < w.heap.size
  klt : ∀ b, K b → b < w.heap.size
  ik : ∀ b, I b → ¬ K b

/-- How a world, and what is known of it, goes on. -/
structure Ext (I K : Nat → Prop) (m : Mp) (hp : Hp) (w : World) (I' : Nat → Prop) (m' : Mp) (hp' : Hp) (w' : World) : Prop where
  isub : ∀ b, I b → I' b
  keep : ∀ b, I b ∨ K b → w'.heap[b]? = w.heap[b]?
  size : w.heap.size ≤ w'.heap.size
  os : w'.os = w.os
  tape : w'.tape = w.tape
  output : w'.output = w.output
  gmono : ∀ x, (hp x).gen ≤ (hp' x).gen
  stable : ∀ x, (hp' x).gen = (hp x).gen →
    match hp x with
    | .no _ => (∃ g, hp' x = .no g)
    | .box _ _ _ => m' x = m x ∧ ∃ g cells' fz', hp' x = .box g cells' fz'
    | .arr _ sz e rows _ => m' x = m x ∧ ∃ g rows' fz', hp' x = .arr g sz e rows' fz' ∧ rows.length ≤ rows'.length

theorem CellsAt.keep {w w' : World} {b o : Nat} {us : List Value} (h : CellsAt w b o us) (hb : w'.heap[b]? = w.heap[b]?) : CellsAt w' b o us :=
  fun j v hv => (World.cell?_of_block (w := w) (a := ⟨b, o + j, none⟩) hb).trans (h j v hv)

section
variable {I I' : Nat → Prop} {w w' : World}
mutual
theorem RepD.mono (hi : ∀ b, I b → I' b) (hk : ∀ b, I b → w'.heap[b]? = w.heap[b]?) : ∀ (a : AV) (u : Value), RepD I w a u → RepD I' w' a u
  | .any, _, h => by simp [RepD] at h
  | .sc v, u, h => by simpa [RepD] using h
  | .sl full sz rows, u, h => by
    simp only [RepD] at h ⊢
    obtain ⟨A, cap, hu, h1, h2, h3, h4⟩ := h
    refine ⟨A, cap, hu, h1, h2, h3, ?_⟩
    rcases h4 with h4 | ⟨b, o, us, hA, hb, hc, hr⟩
    · exact .inl h4
    · exact .inr ⟨b, o, us, hA, hi b hb, hc.keep (hk b hb), RepRows.mono hi hk sz rows us hr⟩
  | .dp cells off, u, h => by
    simp only [RepD] at h ⊢
    obtain ⟨b, o, us, hu, hb, hc, hr⟩ := h
    exact ⟨b, o, us, hu, hi b hb, hc.keep (hk b hb), RepDL.mono hi hk cells us hr⟩
  | .own .., _, h => by simp [RepD] at h
  | .ptr .., _, h => by simp [RepD] at h
  | .eptr .., _, h => by simp [RepD] at h
  | .agg .., _, h => by simp [RepD] at h
  | .tup .., _, h => by simp [RepD] at h
  | .vec .., _, h => by simp [RepD] at h
  | .fn .., _, h => by simp [RepD] at h
theorem RepDL.mono (hi : ∀ b, I b → I' b) (hk : ∀ b, I b → w'.heap[b]? = w.heap[b]?) : ∀ (as : List AV) (us : List Value), RepDL I w as us → RepDL I' w' as us
  | [], us, h => by simpa [RepDL] using h
  | a :: as, us, h => by
    simp only [RepDL] at h ⊢
    obtain ⟨v, vs, hu, h1, h2⟩ := h
    exact ⟨v, vs, hu, RepD.mono hi hk a v h1, RepDL.mono hi hk as vs h2⟩
theorem RepRows.mono (hi : ∀ b, I b → I' b) (hk : ∀ b, I b → w'.heap[b]? = w.heap[b]?) (sz : Nat) : ∀ (rows : List (List AV)) (us : List Value), RepRows I w sz rows us → RepRows I' w' sz rows us
  | [], us, h => by simpa [RepRows] using h
  | r :: rs, us, h => by
    simp only [RepRows] at h ⊢
    obtain ⟨u1, u2, hu, hl, h1, h2⟩ := h
    exact ⟨u1, u2, hu, hl, RepDL.mono hi hk r u1 h1, RepRows.mono hi hk sz rs u2 h2⟩
end
end

section
variable {I K I' : Nat → Prop} {m m' : Mp} {hp hp' : Hp} {w w' : World}
theorem Ext.own (E : Ext I K m hp w I' m' hp' w') (D : Nat) {x : Nm} {g n : Nat} {u : Value} (h : Rep D I m hp w (.own x g n) u) : Rep D I' m' hp' w' (.own x g n) u := by
  simp only [Rep] at h ⊢
  obtain ⟨hd, hg, h⟩ := h
  refine ⟨hd, Nat.le_trans hg (E.gmono x), fun sz e rows fz hx => ?_⟩
  have hgg : (hp' x).gen = g := by rw [hx]; rfl
  have heq : (hp' x).gen = (hp x).gen := Nat.le_antisymm (by rw [hgg]; exact hg) (E.gmono x)
  have hs := E.stable x heq
  cases hpx : hp x with
  | no g' => rw [hpx] at hs; obtain ⟨g2, hg2⟩ := hs; rw [hg2] at hx; cases hx
  | box g' cells fz' => rw [hpx] at hs; obtain ⟨_, g2, c2, f2, hg2⟩ := hs; rw [hg2] at hx; cases hx
  | arr g' sz' e' rows' fz' =>
    rw [hpx] at hs
    obtain ⟨hm, g2, r2, f2, hg2, hle⟩ := hs
    rw [hg2] at hx
    cases hx
    have hg' : g' = g := by rw [hpx] at heq; rw [hgg] at heq; simpa [AObj.gen] using heq.symm
    subst hg'
    obtain ⟨h1, h2⟩ := h sz e rows' fz' hpx
    exact ⟨Nat.le_trans h1 hle, by rw [hm]; exact h2⟩

theorem Ext.ptr (E : Ext I K m hp w I' m' hp' w') (D : Nat) {x : Nm} {g off : Nat} {u : Value} (h : Rep D I m hp w (.ptr x g off) u) : Rep D I' m' hp' w' (.ptr x g off) u := by
  simp only [Rep] at h ⊢
  obtain ⟨hd, hg, h⟩ := h
  refine ⟨hd, Nat.le_trans hg (E.gmono x), fun cells fz hx => ?_⟩
  have hgg : (hp' x).gen = g := by rw [hx]; rfl
  have heq : (hp' x).gen = (hp x).gen := Nat.le_antisymm (by rw [hgg]; exact hg) (E.gmono x)
  have hs := E.stable x heq
  cases hpx : hp x with
  | no g' => rw [hpx] at hs; obtain ⟨g2, hg2⟩ := hs; rw [hg2] at hx; cases hx
  | arr g' sz' e' rows' fz' => rw [hpx] at hs; obtain ⟨_, g2, c2, f2, hg2, _⟩ := hs; rw [hg2] at hx; cases hx
  | box g' cells' fz' =>
    rw [hpx] at hs
    obtain ⟨hm, _⟩ := hs
    have hg' : g' = g := by rw [hpx] at heq; rw [hgg] at heq; simpa [AObj.gen] using heq.symm
    subst hg'
    rw [hm]
    exact h cells' fz' hpx

theorem Ext.eptr (E : Ext I K m hp w I' m' hp' w') (D : Nat) {x : Nm} {g i off : Nat} {u : Value} (h : Rep D I m hp w (.eptr x g i off) u) : Rep D I' m' hp' w' (.eptr x g i off) u := by
  simp only [Rep] at h ⊢
  obtain ⟨hd, hg, h⟩ := h
  refine ⟨hd, Nat.le_trans hg (E.gmono x), fun sz e rows fz hx => ?_⟩
  have hgg : (hp' x).gen = g := by rw [hx]; rfl
  have heq : (hp' x).gen = (hp x).gen := Nat.le_antisymm (by rw [hgg]; exact hg) (E.gmono x)
  have hs := E.stable x heq
  cases hpx : hp x with
  | no g' => rw [hpx] at hs; obtain ⟨g2, hg2⟩ := hs; rw [hg2] at hx; cases hx
  | box g' cells fz' => rw [hpx] at hs; obtain ⟨_, g2, c2, f2, hg2⟩ := hs; rw [hg2] at hx; cases hx
  | arr g' sz' e' rows' fz' =>
    rw [hpx] at hs
    obtain ⟨hm, g2, r2, f2, hg2, hle⟩ := hs
    rw [hg2] at hx
    cases hx
    have hg' : g' = g := by rw [hpx] at heq; rw [hgg] at heq; simpa [AObj.gen] using heq.symm
    subst hg'
    rw [hm]
    exact h sz e rows' fz' hpx

mutual
theorem Rep.mono (E : Ext I K m hp w I' m' hp' w') (D : Nat) : ∀ (a : AV) (u : Value), Rep D I m hp w a u → Rep D I' m' hp' w' a u
  | .any, _, _ => by simp [Rep]
  | .sc v, u, h => by simpa [Rep] using h
  | .sl full sz rows, u, h => by
    simp only [Rep] at h ⊢
    exact RepD.mono E.isub (fun b hb => E.keep b (.inl hb)) _ _ h
  | .dp cells off, u, h => by
    simp only [Rep] at h ⊢
    exact RepD.mono E.isub (fun b hb => E.keep b (.inl hb)) _ _ h
  | .own .., _, h => E.own D h
  | .ptr .., _, h => E.ptr D h
  | .eptr .., _, h => E.eptr D h
  | .agg cs, u, h => by
    simp only [Rep] at h ⊢
    obtain ⟨us, hu, h⟩ := h
    exact ⟨us, hu, RepL.mono E D cs us h⟩
  | .tup cs, u, h => by
    simp only [Rep] at h ⊢
    obtain ⟨us, hu, h⟩ := h
    exact ⟨us, hu, RepL.mono E D cs us h⟩
  | .fn f cs, u, h => by
    simp only [Rep] at h ⊢
    obtain ⟨us, hu, h⟩ := h
    exact ⟨us, hu, RepL.mono E D cs us h⟩
  | .vec .., _, h => by simp [Rep] at h
theorem RepL.mono (E : Ext I K m hp w I' m' hp' w') (D : Nat) : ∀ (as : List AV) (us : List Value), RepL D I m hp w as us → RepL D I' m' hp' w' as us
  | [], us, h => by simpa [RepL] using h
  | a :: as, us, h => by
    simp only [RepL] at h ⊢
    obtain ⟨v, vs, hu, h1, h2⟩ := h
    exact ⟨v, vs, hu, Rep.mono E D a v h1, RepL.mono E D as vs h2⟩
end
end

end Go.Ab
