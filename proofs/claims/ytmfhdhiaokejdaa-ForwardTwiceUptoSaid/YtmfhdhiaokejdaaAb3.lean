/- Lists of abstract values; how the abstract heap goes on. No program is named here. -/
import Derived.Test.YtmfhdhiaokejdaaAb2
namespace Go.Ab
open Go
set_option linter.unusedSimpArgs false
set_option linter.unusedVariables false

/-! ### lists, one by one -/
def AllR (R : AV → Value → Prop) (as : List AV) (us : List Value) : Prop := as.length = us.length ∧ ∀ (i : Nat) (a : AV) (u : Value), as[i]? = some a → us[i]? = some u → R a u

theorem AllR.nil {R : AV → Value → Prop} : AllR R [] [] := ⟨rfl, fun i a u h => by simp at h⟩
theorem AllR.cons {R : AV → Value → Prop} {a : AV} {u : Value} {as : List AV} {us : List Value} (h : R a u) (hs : AllR R as us) : AllR R (a :: as) (u :: us) := by
  refine ⟨by simp [hs.1], fun i b v hb hv => ?_⟩
  cases i with
  | zero => simp at hb hv; subst hb; subst hv; exact h
  | succ i => exact hs.2 i b v (by simpa using hb) (by simpa using hv)
theorem AllR.cons_inv {R : AV → Value → Prop} {a : AV} {as : List AV} {us : List Value} (h : AllR R (a :: as) us) : ∃ v vs, us = v :: vs ∧ R a v ∧ AllR R as vs := by
  cases us with
  | nil => have := h.1; simp at this
  | cons v vs => exact ⟨v, vs, rfl, h.2 0 a v rfl rfl, by have := h.1; simpa using this, fun i b u hb hu => h.2 (i + 1) b u (by simpa using hb) (by simpa using hu)⟩
theorem AllR.imp {R R' : AV → Value → Prop} (hr : ∀ a u, R a u → R' a u) {as : List AV} {us : List Value} (h : AllR R as us) : AllR R' as us := ⟨h.1, fun i a u ha hu => hr _ _ (h.2 i a u ha hu)⟩
theorem AllR.get {R : AV → Value → Prop} {as : List AV} {us : List Value} (h : AllR R as us) {i : Nat} {a : AV} (ha : as[i]? = some a) : ∃ u, us[i]? = some u ∧ R a u := by
  have hi : i < us.length := by rw [← h.1]; exact (List.getElem?_eq_some_iff.1 ha).1
  exact ⟨us[i], List.getElem?_eq_getElem hi, h.2 i a _ ha (List.getElem?_eq_getElem hi)⟩
theorem AllR.append {R : AV → Value → Prop} {as bs : List AV} {us vs : List Value} (h : AllR R as us) (h' : AllR R bs vs) : AllR R (as ++ bs) (us ++ vs) := by
  refine ⟨by simp [h.1, h'.1], fun i a u ha hu => ?_⟩
  by_cases hi : i < as.length
  · rw [List.getElem?_append_left hi] at ha
    rw [List.getElem?_append_left (by rw [← h.1]; exact hi)] at hu
    exact h.2 i a u ha hu
  · rw [List.getElem?_append_right (by omega)] at ha
    rw [List.getElem?_append_right (by rw [← h.1]; omega)] at hu
    exact h'.2 _ a u ha (by rw [h.1]; exact hu)
theorem AllR.take {R : AV → Value → Prop} {as : List AV} {us : List Value} (h : AllR R as us) (n : Nat) : AllR R (as.take n) (us.take n) := by
  refine ⟨by simp [h.1], fun i a u ha hu => ?_⟩
  rw [List.getElem?_take] at ha hu
  split at ha
  · rename_i hi; rw [if_pos hi] at hu; exact h.2 i a u ha hu
  · cases ha
theorem AllR.drop {R : AV → Value → Prop} {as : List AV} {us : List Value} (h : AllR R as us) (n : Nat) : AllR R (as.drop n) (us.drop n) := by
  refine ⟨by simp [h.1], fun i a u ha hu => ?_⟩
  rw [List.getElem?_drop] at ha hu
  exact h.2 _ a u ha hu
theorem AllR.splice {R : AV → Value → Prop} {as vs : List AV} {us ws : List Value} (h : AllR R as us) (h' : AllR R vs ws) (off : Nat) (hl : off + vs.length ≤ as.length) :
    AllR R (splice as off vs) (us.take off ++ ws ++ us.drop (off + ws.length)) := by
  unfold Go.Ab.splice
  split
  · rename_i e
    have e0 : off = 0 := by omega
    subst e0
    have hd : us.drop (0 + ws.length) = [] := by rw [List.drop_eq_nil_iff]; rw [← h'.1, ← h.1]; omega
    rw [hd, List.take_zero, List.nil_append, List.append_nil]
    exact h'
  · rw [← h'.1]
    exact ((h.take off).append h').append (h.drop _)

theorem RepDL_iff {I : Nat → Prop} {w : World} : ∀ (as : List AV) (us : List Value), RepDL I w as us ↔ AllR (RepD I w) as us
  | [], us => by
    simp only [RepDL]
    exact ⟨fun h => by subst h; exact .nil, fun h => List.eq_nil_of_length_eq_zero (by rw [← h.1]; rfl)⟩
  | a :: as, us => by
    simp only [RepDL]
    constructor
    · rintro ⟨v, vs, rfl, h1, h2⟩
      exact .cons h1 ((RepDL_iff as vs).1 h2)
    · intro h
      obtain ⟨v, vs, rfl, h1, h2⟩ := h.cons_inv
      exact ⟨v, vs, rfl, h1, (RepDL_iff as vs).2 h2⟩
theorem RepL_iff {D : Nat} {I : Nat → Prop} {m : Mp} {hp : Hp} {w : World} : ∀ (as : List AV) (us : List Value), RepL D I m hp w as us ↔ AllR (Rep D I m hp w) as us
  | [], us => by
    simp only [RepL]
    exact ⟨fun h => by subst h; exact .nil, fun h => List.eq_nil_of_length_eq_zero (by rw [← h.1]; rfl)⟩
  | a :: as, us => by
    simp only [RepL]
    constructor
    · rintro ⟨v, vs, rfl, h1, h2⟩
      exact .cons h1 ((RepL_iff as vs).1 h2)
    · intro h
      obtain ⟨v, vs, rfl, h1, h2⟩ := h.cons_inv
      exact ⟨v, vs, rfl, h1, (RepL_iff as vs).2 h2⟩

def Even (sz : Nat) (rows : List (List AV)) : Prop := ∀ r ∈ rows, r.length = sz
theorem RepRows_iff {I : Nat → Prop} {w : World} {sz : Nat} : ∀ (rows : List (List AV)) (us : List Value), RepRows I w sz rows us ↔ Even sz rows ∧ AllR (RepD I w) rows.flatten us
  | [], us => by
    simp only [RepRows, List.flatten_nil]
    exact ⟨fun h => by subst h; exact ⟨fun r h => by simp at h, .nil⟩, fun h => List.eq_nil_of_length_eq_zero (by rw [← h.2.1]; rfl)⟩
  | r :: rs, us => by
    simp only [RepRows, List.flatten_cons]
    constructor
    · rintro ⟨u1, u2, rfl, hl, h1, h2⟩
      have h1' := (RepDL_iff r u1).1 h1
      obtain ⟨h3, h4⟩ := (RepRows_iff rs u2).1 h2
      refine ⟨fun x hx => ?_, h1'.append h4⟩
      rcases List.mem_cons.1 hx with rfl | hx
      · rw [h1'.1, hl]
      · exact h3 x hx
    · rintro ⟨h1, h2⟩
      have hr : r.length = sz := h1 r (by simp)
      have a1 := h2.take r.length
      have a2 := h2.drop r.length
      simp only [List.take_left', List.drop_left'] at a1 a2
      refine ⟨us.take r.length, us.drop r.length, by simp, by rw [← a1.1]; exact hr, (RepDL_iff _ _).2 a1, (RepRows_iff rs _).2 ⟨fun x hx => h1 x (by simp [hx]), a2⟩⟩

theorem Even.length {sz : Nat} : ∀ {rows : List (List AV)}, Even sz rows → rows.flatten.length = rows.length * sz
  | [], _ => by simp
  | r :: rs, h => by
    have h1 : r.length = sz := h r (by simp)
    have h2 := Even.length (rows := rs) (fun x hx => h x (by simp [hx]))
    simp only [List.flatten_cons, List.length_append, List.length_cons, h1, h2, Nat.add_mul]
    omega
theorem Even.take {sz : Nat} {rows : List (List AV)} (h : Even sz rows) (n : Nat) : Even sz (rows.take n) := fun r hr => h r (List.mem_of_mem_take hr)
theorem Even.drop {sz : Nat} {rows : List (List AV)} (h : Even sz rows) (n : Nat) : Even sz (rows.drop n) := fun r hr => h r (List.mem_of_mem_drop hr)
theorem Even.append {sz : Nat} {a b : List (List AV)} (h : Even sz a) (h' : Even sz b) : Even sz (a ++ b) := fun r hr => by
  rcases List.mem_append.1 hr with hr | hr
  · exact h r hr
  · exact h' r hr
theorem Even.flatten_take {sz : Nat} : ∀ {rows : List (List AV)}, Even sz rows → ∀ n, (rows.take n).flatten = rows.flatten.take (n * sz)
  | [], _, n => by simp
  | r :: rs, h, 0 => by simp
  | r :: rs, h, n + 1 => by
    have h1 : r.length = sz := h r (by simp)
    have h2 := Even.flatten_take (rows := rs) (fun x hx => h x (by simp [hx])) n
    simp only [List.take_succ_cons, List.flatten_cons, h2]
    have e : (n + 1) * sz = r.length + n * sz := by rw [h1, Nat.add_mul]; omega
    rw [e, List.take_length_add_append]
theorem Even.flatten_drop {sz : Nat} : ∀ {rows : List (List AV)}, Even sz rows → ∀ n, (rows.drop n).flatten = rows.flatten.drop (n * sz)
  | [], _, n => by simp
  | r :: rs, h, 0 => by simp
  | r :: rs, h, n + 1 => by
    have h1 : r.length = sz := h r (by simp)
    have h2 := Even.flatten_drop (rows := rs) (fun x hx => h x (by simp [hx])) n
    simp only [List.drop_succ_cons, List.flatten_cons, h2]
    have e : (n + 1) * sz = r.length + n * sz := by rw [h1, Nat.add_mul]; omega
    rw [e, List.drop_length_add_append]
theorem Even.row {sz : Nat} {rows : List (List AV)} (h : Even sz rows) {i : Nat} {r : List AV} (hr : rows[i]? = some r) : (rows.flatten.drop (i * sz)).take sz = r := by
  rw [← h.flatten_drop]
  have hi : i < rows.length := (List.getElem?_eq_some_iff.1 hr).1
  rw [List.drop_eq_getElem_cons hi]
  have e : rows[i] = r := (List.getElem?_eq_some_iff.1 hr).2
  simp only [List.flatten_cons, e]
  exact List.take_left' (h r (by rw [← e]; exact List.getElem_mem hi))
theorem flatten_set {sz : Nat} {rows : List (List AV)} (h : Even sz rows) {i : Nat} {r' : List AV} (hi : i < rows.length) :
    (rows.set i r').flatten = rows.flatten.take (i * sz) ++ r' ++ rows.flatten.drop (i * sz + sz) := by
  rw [List.set_eq_take_append_cons_drop, if_pos hi]
  simp only [List.flatten_append, List.flatten_cons]
  rw [h.flatten_take, h.flatten_drop, Nat.add_mul, Nat.one_mul, List.append_assoc]
theorem Even.set {sz : Nat} {rows : List (List AV)} (h : Even sz rows) {i : Nat} {r' : List AV} (hr : r'.length = sz) : Even sz (rows.set i r') := fun r hx => by
  rcases List.mem_or_eq_of_mem_set hx with hx | hx
  · exact h r hx
  · rw [hx]; exact hr

/-- Data are single cells. -/
theorem RepD.one {I : Nat → Prop} {w : World} {a : AV} {u : Value} (h : RepD I w a u) : u.oneCell' = true := by
  cases a <;> simp only [RepD] at h
  case sc => rw [h.1]; exact h.2
  case sl => obtain ⟨A, cap, rfl, _⟩ := h; rfl
  case dp => obtain ⟨b, o, us, rfl, _⟩ := h; rfl
theorem AllR.one {I : Nat → Prop} {w : World} {as : List AV} {us : List Value} (h : AllR (RepD I w) as us) : ∀ u ∈ us, u.oneCell' = true := by
  intro u hu
  obtain ⟨i, hi, rfl⟩ := List.getElem_of_mem hu
  have hi' : i < as.length := by rw [h.1]; exact hi
  exact (h.2 i as[i] us[i] (List.getElem?_eq_getElem hi') (List.getElem?_eq_getElem hi)).one
/-- Data are what a slot may hold, whatever else is known. -/
theorem RepD.rep {D : Nat} {I : Nat → Prop} {m : Mp} {hp : Hp} {w : World} {a : AV} {u : Value} (h : RepD I w a u) : Rep D I m hp w a u := by
  cases a <;> first | (simp only [RepD] at h; done) | skip
  case sc => simp only [RepD] at h; simp only [Rep]; exact h.1
  case sl => simp only [Rep]; exact h
  case dp => simp only [Rep]; exact h

/-! ### going on -/
section
variable {I K I' I'' : Nat → Prop} {m m' m'' : Mp} {hp hp' hp'' : Hp} {w w' w'' : World}

theorem Ext.refl (I K : Nat → Prop) (m : Mp) (hp : Hp) (w : World) : Ext I K m hp w I m hp w where
  isub := fun _ h => h
  keep := fun _ _ => rfl
  size := Nat.le_refl _
  os := rfl
  tape := rfl
  output := rfl
  gmono := fun _ => Nat.le_refl _
  stable := fun x _ => by
    cases h : hp x with
    | no g => exact ⟨g, rfl⟩
    | box g c f => exact ⟨rfl, g, c, f, rfl⟩
    | arr g sz e rows f => exact ⟨rfl, g, rows, f, rfl, Nat.le_refl _⟩

theorem Ext.trans (E : Ext I K m hp w I' m' hp' w') (F : Ext I' K m' hp' w' I'' m'' hp'' w'') : Ext I K m hp w I'' m'' hp'' w'' where
  isub := fun b h => F.isub b (E.isub b h)
  keep := fun b h => (F.keep b (h.imp (E.isub b) id)).trans (E.keep b h)
  size := Nat.le_trans E.size F.size
  os := F.os.trans E.os
  tape := F.tape.trans E.tape
  output := F.output.trans E.output
  gmono := fun x => Nat.le_trans (E.gmono x) (F.gmono x)
  stable := fun x hx => by
    have h1 : (hp' x).gen = (hp x).gen := by have := E.gmono x; have := F.gmono x; omega
    have h2 : (hp'' x).gen = (hp' x).gen := by omega
    have s1 := E.stable x h1
    have s2 := F.stable x h2
    cases h : hp x with
    | no g => rw [h] at s1; obtain ⟨g1, e1⟩ := s1; rw [e1] at s2; exact s2
    | box g c f =>
      rw [h] at s1; obtain ⟨hm, g1, c1, f1, e1⟩ := s1
      rw [e1] at s2; obtain ⟨hm2, g2, c2, f2, e2⟩ := s2
      exact ⟨hm2.trans hm, g2, c2, f2, e2⟩
    | arr g sz e rows f =>
      rw [h] at s1; obtain ⟨hm, g1, r1, f1, e1, l1⟩ := s1
      rw [e1] at s2; obtain ⟨hm2, g2, r2, f2, e2, l2⟩ := s2
      exact ⟨hm2.trans hm, g2, r2, f2, e2, Nat.le_trans l1 l2⟩

def AObj.fz : AObj → Bool
  | .no _ => true
  | .box _ _ f => f
  | .arr _ _ _ _ f => f

/-- An object that is not touched stays well formed. -/
theorem ObjOk.mono (E : Ext I K m hp w I' m' hp' w') {x : Nm} {o : AObj} (h : ObjOk I K m hp w x o) (hm : m' x = m x)
    (hb : ∀ p, m x = some p → w'.heap[p.1]? = w.heap[p.1]?) (hI : o.fz = false → ∀ p, m x = some p → ¬ I p.1 → ¬ I' p.1) : ObjOk I' K m' hp' w' x o := by
  cases o with
  | no g => trivial
  | box g cells fz =>
    obtain ⟨b, c, us, T, mk, h1, h2, h3, h4, h5, h6⟩ := h
    refine ⟨b, c, us, T, mk, hm.trans h1, (hb _ h1).trans h2, h3, Rep.mono_L E _ h4, fun hf => ⟨E.isub b (h5 hf).1, RepDL.mono E.isub (fun b hb => E.keep b (.inl hb)) _ _ (h5 hf).2⟩, fun hf => ⟨hI hf _ h1 (h6 hf).1, (h6 hf).2⟩⟩
  | arr g sz e rows fz =>
    rcases h with ⟨h1, h2⟩ | ⟨b, cap, us, mk, h1, h2, h3, h4, h5, h6, h7, h8, h9⟩
    · exact .inl ⟨hm.trans h1, h2⟩
    · exact .inr ⟨b, cap, us, mk, hm.trans h1, (hb _ h1).trans h2, h3, h4, h5, h6, RepRows.mono E.isub (fun b hb => E.keep b (.inl hb)) _ _ _ h7, fun hf => E.isub b (h8 hf), fun hf => ⟨hI hf _ h1 (h9 hf).1, (h9 hf).2⟩⟩
where
  Rep.mono_L {D : Nat} (E : Ext I K m hp w I' m' hp' w') (cells : List AV) {us : List Value} (h : RepL D I m hp w cells us) : RepL D I' m' hp' w' cells us := RepL.mono E D cells us h

/-- A step of which only the objects of X, and blocks of no other object, know. -/
theorem Gam.step (G : Gam I K m hp w) (E : Ext I K m hp w I' m' hp' w') (X : Nm → Prop) (hX : ∀ y, ¬ X y → hp' y = hp y ∧ m' y = m y)
    (hobj : ∀ y, X y → ObjOk I' K m' hp' w' y (hp' y))
    (hblk : ∀ y, ¬ X y → (hp y).live = true → ∀ p, m y = some p → w'.heap[p.1]? = w.heap[p.1]?)
    (hI : ∀ y, ¬ X y → (hp y).live = true → (hp y).fz = false → ∀ p, m y = some p → ¬ I p.1 → ¬ I' p.1)
    (inj : ∀ x y p q, (hp' x).live = true → (hp' y).live = true → m' x = some p → m' y = some q → p.1 = q.1 → x = y)
    (ilt : ∀ b, I' b → b < w'.heap.size) (ik : ∀ b, I' b → ¬ K b) : Gam I' K m' hp' w' where
  obj := fun y => by
    by_cases hy : X y
    · exact hobj y hy
    · obtain ⟨h1, h2⟩ := hX y hy
      rw [h1]
      cases hl : (hp y).live with
      | false => cases ho : hp y with
        | no g => trivial
        | box g c f => rw [ho] at hl; simp [AObj.live] at hl
        | arr g sz e rows f => rw [ho] at hl; simp [AObj.live] at hl
      | true => exact (G.obj y).mono E h2 (hblk y hy hl) (fun hf p hp => hI y hy hl hf p hp)
  inj := inj
  ilt := ilt
  klt := fun b hb => Nat.lt_of_lt_of_le (G.klt b hb) E.size
  ik := ik

/-- The block of a live object lies in the heap. -/
theorem Gam.blk (G : Gam I K m hp w) {x : Nm} (hl : (hp x).live = true) {p : Nat × Nat} (hm : m x = some p) : p.1 < w.heap.size := by
  have h := G.obj x
  cases ho : hp x with
  | no g => rw [ho] at hl; simp [AObj.live] at hl
  | box g c f =>
    rw [ho] at h
    obtain ⟨b, c, us, T, mk, h1, h2, _⟩ := h
    rw [h1] at hm; cases hm
    exact (Array.getElem?_eq_some_iff.1 h2).1
  | arr g sz e rows f =>
    rw [ho] at h
    rcases h with ⟨h1, _⟩ | ⟨b, cap, us, mk, h1, h2, _⟩
    · rw [h1] at hm; cases hm
    · rw [h1] at hm; cases hm
      exact (Array.getElem?_eq_some_iff.1 h2).1
end
end Go.Ab
