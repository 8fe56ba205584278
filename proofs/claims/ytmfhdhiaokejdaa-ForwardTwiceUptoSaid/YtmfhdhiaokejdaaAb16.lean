/- What an operation reads and writes; operations that may be swapped. No program of Go is named here. -/
import Derived.Test.YtmfhdhiaokejdaaAb15
namespace Go.Ab
open Go
set_option linter.unusedSimpArgs false
set_option linter.unusedVariables false

/-- Two heaps agree on a facet. -/
def AgF (hp hp' : Hp) : Facet → Prop
  | .all x => hp x = hp' x
  | .hd x => (hp x).head = (hp' x).head
  | .cl x off => cellOf (hp x) off = cellOf (hp' x) off
  | .top => hp = hp'

theorem AgF.all_hd {hp hp' : Hp} {x : Nm} (h : AgF hp hp' (.all x)) : AgF hp hp' (.hd x) := by simp only [AgF] at h ⊢; rw [h]
theorem setCell_head {o o' : AObj} {off : Nat} {v : AV} (h : setCellOf o off v = some o') : o'.head = o.head := by
  cases o with
  | box g c f =>
    simp only [setCellOf] at h
    split at h
    · cases h; simp [AObj.head]
    · cases h
  | no g => simp [setCellOf] at h
  | arr g sz e rows f => simp [setCellOf] at h
theorem setCell_cell {o o' : AObj} {off : Nat} {v : AV} (h : setCellOf o off v = some o') (off' : Nat) : cellOf o' off' = if off' = off then some v else cellOf o off' := by
  cases o with
  | box g c f =>
    simp only [setCellOf] at h
    split at h
    · rename_i hl
      cases h
      simp only [cellOf]
      by_cases e : off' = off
      · subst e; simp [hl]
      · rw [if_neg e, List.getElem?_set_ne (fun h => e h.symm)]
    · cases h
  | no g => simp [setCellOf] at h
  | arr g sz e rows f => simp [setCellOf] at h
theorem setCell_ok {o o1 p : AObj} {off : Nat} {v : AV} (h : setCellOf o off v = some o1) (hh : o.head = p.head) : ∃ p1, setCellOf p off v = some p1 := by
  cases o with
  | box g c f =>
    simp only [setCellOf] at h
    split at h
    · rename_i hl
      cases p with
      | box g' c' f' =>
        simp only [AObj.head, Head.box.injEq] at hh
        exact ⟨_, by simp only [setCellOf]; rw [if_pos (by omega)]⟩
      | no g' => simp [AObj.head] at hh
      | arr g' sz e rows f' => simp [AObj.head] at hh
    · cases h
  | no g => simp [setCellOf] at h
  | arr g sz e rows f => simp [setCellOf] at h

section
variable {α : Type}

theorem runF_sub : ∀ (p : Prog α) {hp hp1 : Hp} {R W R1 W1 : List Facet} {v : α}, p.runF hp R W = some (v, hp1, R1, W1) → (∀ f ∈ R, f ∈ R1) ∧ (∀ f ∈ W, f ∈ W1)
  | .ret a, hp, hp1, R, W, R1, W1, v, h => by
    simp only [Prog.runF, Option.some.injEq, Prod.mk.injEq] at h
    obtain ⟨_, _, rfl, rfl⟩ := h
    exact ⟨fun _ h => h, fun _ h => h⟩
  | .get x k, hp, hp1, R, W, R1, W1, v, h => by
    simp only [Prog.runF] at h
    have := runF_sub (k (hp x)) h
    exact ⟨fun f hf => this.1 f (List.mem_cons_of_mem _ hf), this.2⟩
  | .put x o k, hp, hp1, R, W, R1, W1, v, h => by
    simp only [Prog.runF] at h
    have := runF_sub k h
    exact ⟨this.1, fun f hf => this.2 f (List.mem_cons_of_mem _ hf)⟩
  | .hdr x k, hp, hp1, R, W, R1, W1, v, h => by
    simp only [Prog.runF] at h
    have := runF_sub (k (hp x).head) h
    exact ⟨fun f hf => this.1 f (List.mem_cons_of_mem _ hf), this.2⟩
  | .getC x off k, hp, hp1, R, W, R1, W1, v, h => by
    simp only [Prog.runF] at h
    split at h
    · rename_i c hc
      have := runF_sub (k c) h
      exact ⟨fun f hf => this.1 f (List.mem_cons_of_mem _ (List.mem_cons_of_mem _ hf)), this.2⟩
    · cases h
  | .putC x off c k, hp, hp1, R, W, R1, W1, v, h => by
    simp only [Prog.runF] at h
    split at h
    · have := runF_sub k h
      exact ⟨fun f hf => this.1 f (List.mem_cons_of_mem _ hf), fun f hf => this.2 f (List.mem_cons_of_mem _ hf)⟩
    · cases h
  | .ext g k, hp, hp1, R, W, R1, W1, v, h => by
    simp only [Prog.runF] at h
    split at h
    · have := runF_sub (k _) h
      exact ⟨fun f hf => this.1 f (List.mem_cons_of_mem _ hf), fun f hf => this.2 f (List.mem_cons_of_mem _ hf)⟩
    · cases h
  | .fail, _, _, _, _, _, _, _, h => by simp [Prog.runF] at h

theorem runF_run : ∀ (p : Prog α) {hp hp1 : Hp} {R W R1 W1 : List Facet} {v : α}, p.runF hp R W = some (v, hp1, R1, W1) → p.run hp = some (v, hp1)
  | .ret a, hp, hp1, R, W, R1, W1, v, h => by
    simp only [Prog.runF, Option.some.injEq, Prod.mk.injEq] at h
    simp [Prog.run, h]
  | .get x k, hp, hp1, R, W, R1, W1, v, h => by
    simp only [Prog.runF] at h
    exact runF_run (k (hp x)) h
  | .put x o k, hp, hp1, R, W, R1, W1, v, h => by
    simp only [Prog.runF] at h
    exact runF_run k h
  | .hdr x k, hp, hp1, R, W, R1, W1, v, h => by
    simp only [Prog.runF] at h
    exact runF_run (k (hp x).head) h
  | .getC x off k, hp, hp1, R, W, R1, W1, v, h => by
    simp only [Prog.runF] at h
    simp only [Prog.run]
    split at h
    · rename_i c hc
      exact runF_run (k c) h
    · cases h
  | .putC x off c k, hp, hp1, R, W, R1, W1, v, h => by
    simp only [Prog.runF] at h
    simp only [Prog.run]
    split at h
    · rename_i c hc
      exact runF_run k h
    · cases h
  | .ext g k, hp, hp1, R, W, R1, W1, v, h => by
    simp only [Prog.runF] at h
    simp only [Prog.run]
    split at h
    · exact runF_run (k _) h
    · cases h
  | .fail, _, _, _, _, _, _, _, h => by simp [Prog.runF] at h

/-- What is read alone decides what comes, and what is written. -/
theorem runF_local : ∀ (p : Prog α) {hp hp1 hp' : Hp} {R W R1 W1 : List Facet} {v : α}, p.runF hp R W = some (v, hp1, R1, W1) → (∀ f ∈ R1, AgF hp hp' f) →
    ∃ hp1', p.runF hp' R W = some (v, hp1', R1, W1) ∧ (∀ f, AgF hp hp' f → AgF hp1 hp1' f) ∧ ((∀ f ∈ W, AgF hp hp' f) → ∀ f ∈ W1, AgF hp1 hp1' f)
  | .ret a, hp, hp1, hp', R, W, R1, W1, v, h, ha => by
    simp only [Prog.runF, Option.some.injEq, Prod.mk.injEq] at h
    obtain ⟨rfl, rfl, rfl, rfl⟩ := h
    exact ⟨hp', rfl, fun _ h => h, fun h => h⟩
  | .get x k, hp, hp1, hp', R, W, R1, W1, v, h, ha => by
    simp only [Prog.runF] at h ⊢
    have hx : AgF hp hp' (.all x) := ha _ ((runF_sub _ h).1 _ (List.mem_cons_self ..))
    have ih := runF_local (k (hp x)) h ha
    simp only [AgF] at hx
    rwa [← hx]
  | .put x o k, hp, hp1, hp', R, W, R1, W1, v, h, ha => by
    simp only [Prog.runF] at h ⊢
    have key : ∀ f, AgF hp hp' f → AgF (upd hp x o) (upd hp' x o) f := by
      intro f hf
      cases f with
      | all y => by_cases e : y = x <;> simp only [AgF, upd, e, if_true, if_false] at hf ⊢; exact hf
      | hd y => by_cases e : y = x <;> simp only [AgF, upd, e, if_true, if_false] at hf ⊢; exact hf
      | cl y q => by_cases e : y = x <;> simp only [AgF, upd, e, if_true, if_false] at hf ⊢; exact hf
      | top => simp only [AgF] at hf ⊢; rw [hf]
    obtain ⟨hp1', h1, h2, h3⟩ := runF_local k h (fun f hf => key f (ha f hf))
    refine ⟨hp1', h1, fun f hf => h2 f (key f hf), fun hw => h3 fun f hf => ?_⟩
    rcases List.mem_cons.1 hf with rfl | hf
    · simp [AgF, upd]
    · exact key f (hw f hf)
  | .hdr x k, hp, hp1, hp', R, W, R1, W1, v, h, ha => by
    simp only [Prog.runF] at h ⊢
    have hx : AgF hp hp' (.hd x) := ha _ ((runF_sub _ h).1 _ (List.mem_cons_self ..))
    have ih := runF_local (k (hp x).head) h ha
    simp only [AgF] at hx
    rwa [← hx]
  | .getC x off k, hp, hp1, hp', R, W, R1, W1, v, h, ha => by
    simp only [Prog.runF] at h ⊢
    split at h
    · rename_i c hc
      have hx : AgF hp hp' (.cl x off) := ha _ ((runF_sub _ h).1 _ (List.mem_cons_self ..))
      have ih := runF_local (k c) h ha
      simp only [AgF] at hx
      rw [← hx, hc]
      exact ih
    · cases h
  | .putC x off c k, hp, hp1, hp', R, W, R1, W1, v, h, ha => by
    simp only [Prog.runF] at h ⊢
    split at h
    · rename_i o1 ho
      have hx : AgF hp hp' (.hd x) := ha _ ((runF_sub _ h).1 _ (List.mem_cons_self ..))
      simp only [AgF] at hx
      obtain ⟨p1, hp1'⟩ := setCell_ok ho hx
      rw [hp1']
      simp only
      have hcell : cellOf (upd hp x o1 x) off = cellOf (upd hp' x p1 x) off := by
        rw [upd_same, upd_same, setCell_cell ho off, setCell_cell hp1' off, if_pos rfl, if_pos rfl]
      have key : ∀ f, AgF hp hp' f → AgF (upd hp x o1) (upd hp' x p1) f := by
        intro f hf
        cases f with
        | all y =>
          by_cases e : y = x
          · subst e
            simp only [AgF] at hf ⊢
            rw [upd_same, upd_same]
            rw [← hf, ho] at hp1'
            exact Option.some.inj hp1'
          · simp only [AgF] at hf ⊢
            rw [upd_other _ _ e, upd_other _ _ e]; exact hf
        | hd y =>
          by_cases e : y = x
          · subst e
            simp only [AgF] at hf ⊢
            rw [upd_same, upd_same, setCell_head ho, setCell_head hp1']
            exact hf
          · simp only [AgF] at hf ⊢
            rw [upd_other _ _ e, upd_other _ _ e]; exact hf
        | cl y q =>
          by_cases e : y = x
          · subst e
            simp only [AgF] at hf ⊢
            rw [upd_same, upd_same, setCell_cell ho, setCell_cell hp1']
            split
            · rfl
            · exact hf
          · simp only [AgF] at hf ⊢
            rw [upd_other _ _ e, upd_other _ _ e]; exact hf
        | top =>
          simp only [AgF] at hf ⊢
          rw [← hf, ho] at hp1'
          rw [hf, Option.some.inj hp1']
      obtain ⟨q, h1, h2, h3⟩ := runF_local k h (fun f hf => key f (ha f hf))
      refine ⟨q, h1, fun f hf => h2 f (key f hf), fun hw => h3 fun f hf => ?_⟩
      rcases List.mem_cons.1 hf with rfl | hf
      · exact hcell
      · exact key f (hw f hf)
    · cases h
  | .ext g k, hp, hp1, hp', R, W, R1, W1, v, h, ha => by
    simp only [Prog.runF] at h ⊢
    split at h
    · have hx : AgF hp hp' .top := ha _ ((runF_sub _ h).1 _ (List.mem_cons_self ..))
      simp only [AgF] at hx
      subst hx
      rename_i v0 hp0 hg
      refine ⟨hp1, by rw [hg]; exact h, fun f hf => ?_, fun _ f _ => ?_⟩ <;> cases f <;> rfl
    · cases h
  | .fail, _, _, _, _, _, _, _, _, h, _ => by simp [Prog.runF] at h

/-- What may differ behind writes. -/
def Eff (W : List Facet) (hp hp1 : Hp) : Prop := ∀ x, (.all x ∈ W ∨ .top ∈ W) ∨ hp1 x = hp x ∨ ∃ g c c' f, hp x = .box g c f ∧ hp1 x = .box g c' f ∧ c'.length = c.length ∧ ∀ off, .cl x off ∉ W → c'[off]? = c[off]?

theorem runF_eff : ∀ (p : Prog α) {hp hp1 hp0 : Hp} {R W R1 W1 : List Facet} {v : α}, p.runF hp R W = some (v, hp1, R1, W1) → Eff W hp0 hp → Eff W1 hp0 hp1
  | .ret a, hp, hp1, hp0, R, W, R1, W1, v, h, e => by
    simp only [Prog.runF, Option.some.injEq, Prod.mk.injEq] at h
    obtain ⟨_, rfl, _, rfl⟩ := h
    exact e
  | .get x k, hp, hp1, hp0, R, W, R1, W1, v, h, e => by
    simp only [Prog.runF] at h
    exact runF_eff (k (hp x)) h e
  | .put x o k, hp, hp1, hp0, R, W, R1, W1, v, h, e => by
    simp only [Prog.runF] at h
    refine runF_eff k h fun y => ?_
    by_cases hy : y = x
    · subst hy; exact .inl (.inl (List.mem_cons_self ..))
    · rcases e y with h | h | ⟨g, c, c', f, h1, h2, h3, h4⟩
      · exact .inl (h.imp (List.mem_cons_of_mem _) (List.mem_cons_of_mem _))
      · exact .inr (.inl (by rw [upd_other _ _ hy]; exact h))
      · exact .inr (.inr ⟨g, c, c', f, h1, by rw [upd_other _ _ hy]; exact h2, h3, fun off hn => h4 off fun hm => hn (List.mem_cons_of_mem _ hm)⟩)
  | .hdr x k, hp, hp1, hp0, R, W, R1, W1, v, h, e => by
    simp only [Prog.runF] at h
    exact runF_eff (k (hp x).head) h e
  | .getC x off k, hp, hp1, hp0, R, W, R1, W1, v, h, e => by
    simp only [Prog.runF] at h
    split at h
    · exact runF_eff (k _) h e
    · cases h
  | .putC x off cv k, hp, hp1, hp0, R, W, R1, W1, v, h, e => by
    simp only [Prog.runF] at h
    split at h
    · rename_i o1 ho
      refine runF_eff k h fun y => ?_
      by_cases hy : y = x
      · subst hy
        rcases e y with h | h | ⟨g, c, c', f, h1, h2, h3, h4⟩
        · exact .inl (h.imp (List.mem_cons_of_mem _) (List.mem_cons_of_mem _))
        · rw [h] at ho
          cases hb : hp0 y with
          | box g c f =>
            rw [hb] at ho
            simp only [setCellOf] at ho
            split at ho
            · cases ho
              refine .inr (.inr ⟨g, c, _, f, rfl, upd_same _ _ _, by simp, fun q hq => ?_⟩)
              have hqo : off ≠ q := fun e => hq (by subst e; exact List.mem_cons_self ..)
              rw [List.getElem?_set_ne hqo]
            · cases ho
          | no g => rw [hb] at ho; simp [setCellOf] at ho
          | arr g sz e' rows f => rw [hb] at ho; simp [setCellOf] at ho
        · rw [h2] at ho
          simp only [setCellOf] at ho
          split at ho
          · cases ho
            refine .inr (.inr ⟨g, c, _, f, h1, upd_same _ _ _, by simpa using h3, fun q hq => ?_⟩)
            have hqo : off ≠ q := fun e => hq (by subst e; exact List.mem_cons_self ..)
            rw [List.getElem?_set_ne hqo]
            exact h4 q fun hm => hq (List.mem_cons_of_mem _ hm)
          · cases ho
      · rcases e y with h | h | ⟨g, c, c', f, h1, h2, h3, h4⟩
        · exact .inl (h.imp (List.mem_cons_of_mem _) (List.mem_cons_of_mem _))
        · exact .inr (.inl (by rw [upd_other _ _ hy]; exact h))
        · exact .inr (.inr ⟨g, c, c', f, h1, by rw [upd_other _ _ hy]; exact h2, h3, fun off hn => h4 off fun hm => hn (List.mem_cons_of_mem _ hm)⟩)
    · cases h
  | .ext g k, hp, hp1, hp0, R, W, R1, W1, v, h, e => by
    simp only [Prog.runF] at h
    split at h
    · exact runF_eff (k _) h fun y => .inl (.inr (List.mem_cons_self ..))
    · cases h
  | .fail, _, _, _, _, _, _, _, _, h, _ => by simp [Prog.runF] at h

theorem Eff.refl (hp : Hp) : Eff [] hp hp := fun _ => .inr (.inl rfl)

/-- What does not meet a write is as it was. -/
theorem Eff.ag {W : List Facet} {hp hp1 : Hp} (e : Eff W hp hp1) {f : Facet} (hn : ∀ x ∈ W, x.meets f = false) : AgF hp hp1 f := by
  have htop : Facet.top ∉ W := fun hm => by simpa [Facet.meets] using hn _ hm
  by_cases hft : f = .top
  · subst hft
    have hW : W = [] := List.eq_nil_iff_forall_not_mem.2 fun y hy => by have := hn y hy; cases y <;> simp [Facet.meets] at this
    subst hW
    simp only [AgF]
    funext x
    rcases e x with (h | h) | h | ⟨g, c, c', fz, h1, h2, h3, h4⟩
    · cases h
    · cases h
    · exact h.symm
    · rw [h1, h2]
      congr 1
      exact List.ext_getElem? fun j => (h4 j (by simp)).symm
  have hall : ¬ (Facet.all f.nm ∈ W ∨ Facet.top ∈ W) := fun hm => hm.elim (fun hm => by have := hn _ hm; cases f <;> simp [Facet.meets, Facet.nm] at this hft) htop
  rcases e f.nm with h | h | ⟨g, c, c', fz, h1, h2, h3, h4⟩
  · exact (hall h).elim
  · cases f with
    | top => exact absurd rfl hft
    | _ => simp only [Facet.nm] at h; simp only [AgF]; rw [h]
  · cases f with
    | all x =>
      simp only [Facet.nm] at h1 h2 h4
      simp only [AgF]
      rw [h1, h2]
      congr 1
      refine List.ext_getElem? fun j => (h4 j fun hm => ?_).symm
      have := hn _ hm
      simp [Facet.meets, Facet.nm] at this
    | hd x =>
      simp only [Facet.nm] at h1 h2 h4
      simp only [AgF]
      rw [h1, h2]
      simp [AObj.head, h3]
    | cl x off =>
      simp only [Facet.nm] at h1 h2 h4
      simp only [AgF]
      rw [h1, h2]
      simp only [cellOf]
      refine (h4 off fun hm => ?_).symm
      have := hn _ hm
      simp [Facet.meets] at this
    | top => exact absurd rfl hft

theorem Facet.meets_comm (f g : Facet) : f.meets g = g.meets f := by
  cases f <;> cases g <;> simp only [Facet.meets, Facet.nm] <;> first | done | exact BEq.comm | (congr 1 <;> exact BEq.comm)
theorem Eff.same {W : List Facet} {hp hp1 : Hp} (e : Eff W hp hp1) {x : Nm} (hx : .all x ∉ W) (ht : .top ∉ W) (hb : ∀ g c f, hp x ≠ .box g c f) : hp1 x = hp x := by
  rcases (e x).resolve_left (fun h => h.elim hx ht) with h | ⟨g, c, c', f, h1, _⟩
  · exact h
  · exact (hb g c f h1).elim
theorem Eff.box {W : List Facet} {hp hp1 : Hp} (e : Eff W hp hp1) {x : Nm} (hx : .all x ∉ W) (ht : .top ∉ W) {g : Nat} {c : List AV} {f : Bool} (hb : hp x = .box g c f) : ∃ c', hp1 x = .box g c' f := by
  rcases (e x).resolve_left (fun h => h.elim hx ht) with h | ⟨g', c', c2, f', h1, h2, _⟩
  · exact ⟨c, by rw [h, hb]⟩
  · rw [hb] at h1
    cases h1
    exact ⟨c2, h2⟩
theorem notCell {W : List Facet} {x : Nm} {off : Nat} (h1 : .all x ∉ W) (h2 : .cl x off ∉ W) (h3 : .top ∉ W) : ∀ y ∈ W, y.meets (.cl x off) = false := by
  intro y hy
  cases y with
  | all z =>
    simp only [Facet.meets, Facet.nm]
    refine Bool.eq_false_iff.2 fun h => h1 ?_
    rw [beq_iff_eq] at h
    subst h; exact hy
  | hd z => rfl
  | cl z q =>
    simp only [Facet.meets]
    refine Bool.eq_false_iff.2 fun h => h2 ?_
    simp only [Bool.and_eq_true, beq_iff_eq] at h
    obtain ⟨rfl, rfl⟩ := h
    exact hy
  | top => exact (h3 hy).elim
theorem Eff.nil {hp hp1 : Hp} (e : Eff [] hp hp1) : hp1 = hp := by
  have := e.ag (f := .top) (by simp)
  exact this.symm

theorem runF_swap {β : Type} {p : Prog α} {q : Prog β} {hp hp1 hp2 : Hp} {v : α} {u : β} {Rp Wp Rq Wq : List Facet} (h1 : p.runF hp [] [] = some (v, hp1, Rp, Wp)) (h2 : q.runF hp1 [] [] = some (u, hp2, Rq, Wq)) (ha : apartF ⟨Rp, Wp⟩ ⟨Rq, Wq⟩ = true) :
    ∃ hq, q.runF hp [] [] = some (u, hq, Rq, Wq) ∧ p.runF hq [] [] = some (v, hp2, Rp, Wp) := by
  simp only [apartF, Bool.and_eq_true, List.all_eq_true, Bool.not_eq_true'] at ha
  obtain ⟨ha1, ha2⟩ := ha
  have ep := runF_eff p h1 (Eff.refl hp)
  have eq2 := runF_eff q h2 (Eff.refl hp1)
  obtain ⟨hq, h3, a3, w3⟩ := runF_local q (hp' := hp) h2 (fun f hf => by
    have := ep.ag (f := f) fun x hx => (ha1 x hx).1 f hf
    cases f <;> simp only [AgF] at this ⊢ <;> exact this.symm)
  have eq0 := runF_eff q h3 (Eff.refl hp)
  obtain ⟨hr, h4, a4, w4⟩ := runF_local p (hp' := hq) h1 (fun f hf => eq0.ag fun x hx => ha2 x hx f hf)
  have ep4 := runF_eff p h4 (Eff.refl hq)
  refine ⟨hq, h3, ?_⟩
  have w3 := w3 (by simp)
  have w4 := w4 (by simp)
  have hfin : hr = hp2 := by
    by_cases t1 : Facet.top ∈ Wp
    · have hW : Wq = [] := List.eq_nil_iff_forall_not_mem.2 fun y hy => by have := (ha1 _ t1).2 y hy; simp [Facet.meets] at this
      subst hW
      have e0 := eq0.nil
      subst e0
      rw [h1] at h4
      simp only [Option.some.injEq, Prod.mk.injEq] at h4
      rw [eq2.nil]
      exact h4.2.1.symm
    by_cases t2 : Facet.top ∈ Wq
    · have hW : Wp = [] := List.eq_nil_iff_forall_not_mem.2 fun y hy => by have := (ha1 y hy).2 _ t2; cases y <;> simp [Facet.meets] at this
      subst hW
      have e0 := ep.nil
      subst e0
      rw [h2] at h3
      simp only [Option.some.injEq, Prod.mk.injEq] at h3
      rw [ep4.nil]
      exact h3.2.1.symm
    funext x
    -- what p has written whole
    by_cases c1 : Facet.all x ∈ Wp
    · have e1 := w4 _ c1
      simp only [AgF] at e1
      have e2 := eq2.ag (f := .all x) fun y hy => by rw [Facet.meets_comm]; exact (ha1 _ c1).2 y hy
      simp only [AgF] at e2
      rw [← e1, e2]
    · by_cases c2 : Facet.all x ∈ Wq
      · have e1 := w3 _ c2
        simp only [AgF] at e1
        have e2 := ep4.ag (f := .all x) fun y hy => (ha1 y hy).2 _ c2
        simp only [AgF] at e2
        rw [← e2, ← e1]
      · cases hx : hp x with
        | no g =>
          have hb : ∀ g c f, hp x ≠ .box g c f := fun g c f h => by rw [hx] at h; cases h
          have e1 := ep.same c1 t1 hb
          have e3 := eq0.same c2 t2 hb
          rw [ep4.same c1 t1 (by rw [e3]; exact hb), eq2.same c2 t2 (by rw [e1]; exact hb), e1, e3]
        | arr g sz e rows f =>
          have hb : ∀ g c f, hp x ≠ .box g c f := fun g c f h => by rw [hx] at h; cases h
          have e1 := ep.same c1 t1 hb
          have e3 := eq0.same c2 t2 hb
          rw [ep4.same c1 t1 (by rw [e3]; exact hb), eq2.same c2 t2 (by rw [e1]; exact hb), e1, e3]
        | box g c f =>
          obtain ⟨b1, e1⟩ := ep.box c1 t1 hx
          obtain ⟨b2, e2⟩ := eq2.box c2 t2 e1
          obtain ⟨b3, e3⟩ := eq0.box c2 t2 hx
          obtain ⟨b4, e4⟩ := ep4.box c1 t1 e3
          rw [e2, e4]
          congr 1
          refine List.ext_getElem? fun j => ?_
          have cell : cellOf (hr x) j = cellOf (hp2 x) j := by
            by_cases m1 : Facet.cl x j ∈ Wp
            · have f1 := w4 _ m1
              have f2 := eq2.ag (f := .cl x j) fun y hy => by rw [Facet.meets_comm]; exact (ha1 _ m1).2 y hy
              simp only [AgF] at f1 f2
              rw [← f1, f2]
            · by_cases m2 : Facet.cl x j ∈ Wq
              · have f1 := w3 _ m2
                have f2 := ep4.ag (f := .cl x j) fun y hy => (ha1 y hy).2 _ m2
                simp only [AgF] at f1 f2
                rw [← f2, ← f1]
              · have f1 := ep.ag (f := .cl x j) (notCell c1 m1 t1)
                have f2 := eq2.ag (f := .cl x j) (notCell c2 m2 t2)
                have f3 := eq0.ag (f := .cl x j) (notCell c2 m2 t2)
                have f4 := ep4.ag (f := .cl x j) (notCell c1 m1 t1)
                simp only [AgF] at f1 f2 f3 f4
                rw [← f4, ← f3, ← f2, ← f1]
          rw [e2, e4] at cell
          exact cell
  rw [← hfin]
  exact h4
end
end Go.Ab
