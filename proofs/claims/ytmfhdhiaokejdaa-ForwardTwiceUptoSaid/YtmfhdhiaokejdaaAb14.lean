/- One operation. No program of Go is named here. -/
import Derived.Test.YtmfhdhiaokejdaaAb13
namespace Go.Ab
open Go
set_option linter.unusedSimpArgs false
set_option linter.unusedVariables false

section
variable {P : Program} {I K : Nat → Prop} {m : Mp} {hp hp' : Hp} {w : World} {k : Nat}

/-- What a call of data comes to: nothing that was there is changed. -/
structure CallPost (P : Program) (I : Nat → Prop) (w : World) (ts : List TypeId) (rs : List AV) (u : Value) (w' : World) : Prop where
  old : ∀ b, b < w.heap.size → w'.heap[b]? = w.heap[b]?
  size : w.heap.size ≤ w'.heap.size
  os : w'.os = w.os
  tape : w'.tape = w.tape
  output : w'.output = w.output
  res : ∃ I' us bs, u = retV us ∧ (∀ b, I b → I' b) ∧ (∀ b, I' b → I b ∨ w.heap.size ≤ b) ∧ (∀ b, I' b → b < w'.heap.size) ∧ (∀ b ∈ bs, w.heap.size ≤ b ∧ ¬ I' b) ∧ bs.Nodup ∧ RepResL P I' w' ts rs us bs
def DatOk (P : Program) (call : Orc) : Prop := ∀ f args rs, call.dat f args = some rs → okFn P f = true → ∀ (I : Nat → Prop) (w : World) (us : List Value), (∀ b, I b → b < w.heap.size) → AllR (RepA I w) args us →
  Calls P f ⟨us⟩ w (fun e w' => ∃ u, e = .returned u ∧ CallPost P I w (rtys P f) rs u w')

/-- The abstract state, and the world. -/
def Sim (I K : Nat → Prop) (m : Mp) (hp : Hp) (w : World) (v : AV) (k : Nat) (I0 : Nat → Prop) (m0 : Mp) (hp0 : Hp) (w0 : World) (u : Value) : Prop :=
  Gam I K m hp w ∧ Ext I0 K m0 hp0 w0 I m hp w ∧ Rep k I m hp w v u
/-- A call on the caller's heap. -/
def HeapOk (P : Program) (call : Orc) : Prop := ∀ k d f args hp v hp', call.hpc k d f args hp = some (v, hp') → okFn P f = true → ∀ (I K : Nat → Prop) (m : Mp) (w : World) (us : List Value), Gam I K m hp w → AllR (Rep k I m hp w) args us →
  Calls P f ⟨us⟩ w (fun e w' => ∃ u, e = .returned u ∧ ∃ I' m', Sim I' K m' hp' w' v k I m hp w u)
def OrcOk (P : Program) (call : Orc) : Prop := DatOk P call ∧ HeapOk P call
/-- What an operation comes to. -/
def OpR (P : Program) (o : Oper) (a : Act) (w : World) (Post : Value → World → Prop) : Prop :=
  match (execOp a.eval o).run P w with
  | .ok (.value u) w' => Post u w'
  | .ok .skip w' => Post undef w'
  | .ok (.enter f args) w' => Calls P f args w' fun e w'' => ∃ u, e = .returned u ∧ Post u w''
  | _ => False

theorem OpR.wp {o : Oper} {a : Act} {Post : Value → World → Prop} (h : OpR P o a w Post) {next : Act → World → Prop} {Q : Exit → Act → World → Prop} (hn : ∀ u w', Post u w' → next (a.put o.dst u) w') : o.wp P a w next Q := by
  unfold OpR at h
  unfold Oper.wp
  split at h
  · rename_i u w' he; rw [he]; exact hn _ _ h
  · rename_i w' he; rw [he]; exact hn _ _ h
  · rename_i f args w' he
    rw [he]
    exact h.mono fun e w'' he2 => by obtain ⟨u, rfl, h2⟩ := he2; exact hn _ _ h2
  · exact h.elim

theorem opA_ok {fr : Nat → AV} {a : Act} (hf : ∀ t, Rep k I m hp w (fr t) (a.eval (.tmp t))) (x : Operand) : Rep k I m hp w (opA fr x) (a.eval x) := by
  cases x with
  | tmp t => exact hf t
  | const v =>
    cases v with
    | agg us =>
      simp only [opA, Rep, Act.eval]
      refine ⟨us.toList, rfl, (RepL_iff _ _).2 ⟨by simp, fun j a u h1 h2 => ?_⟩⟩
      rw [List.getElem?_map, h2] at h1
      cases h1
      simp only [Rep]
    | _ => simp only [opA, Rep, Act.eval]
  | func f => simp only [opA, Rep, Act.eval]; exact ⟨[], rfl, by simp [RepL]⟩
  | global g => simp only [opA, Rep]

/-- All blocks that a call could know of stay as they are. -/
theorem CallPost.wx {ts : List TypeId} {rs : List AV} {u : Value} {w' : World} (h : CallPost P I w ts rs u w') {I0 : Nat → Prop} (hi : ∀ b, I0 b → b < w.heap.size) (hk : ∀ b, K b → b < w.heap.size) : WX I0 K w w' where
  keep := fun b hb => h.old b (hb.elim (hi b) (hk b))
  size := h.size
  os := h.os
  tape := h.tape
  output := h.output

/-- The world went on by what is new alone. -/
theorem Gam.world (G : Gam I K m hp w) {w' : World} {I' : Nat → Prop} (hold : ∀ b, b < w.heap.size → w'.heap[b]? = w.heap[b]?) (W : WX I K w w') (hi : ∀ b, I b → I' b) (hi2 : ∀ b, I' b → I b ∨ w.heap.size ≤ b) (hi3 : ∀ b, I' b → b < w'.heap.size) :
    Gam I' K m hp w' ∧ Ext I K m hp w I' m hp w' := by
  have E : Ext I K m hp w I' m hp w' := { isub := hi, keep := W.keep, size := W.size, os := W.os, tape := W.tape, output := W.output, gmono := fun _ => Nat.le_refl _, stable := fun x _ => (by cases hp x <;> simp <;> exact ⟨_, _, ⟨rfl, rfl⟩, Nat.le_refl _⟩) }
  refine ⟨G.step E (fun _ => False) (fun y _ => ⟨rfl, rfl⟩) (fun y h => h.elim) (fun y _ hl q hq => hold _ (G.blk hl hq)) (fun y _ hl _ q hq hn hI => ?_) G.inj hi3 (fun b hb hk => ?_), E⟩
  · rcases hi2 _ hI with h | h
    · exact hn h
    · exact Nat.lt_irrefl _ (Nat.lt_of_lt_of_le (G.blk hl hq) h)
  · rcases hi2 b hb with h | h
    · exact G.ik b h hk
    · exact Nat.lt_irrefl _ (Nat.lt_of_lt_of_le (G.klt b hk) h)

theorem RepResL.flat : ∀ {ts : List TypeId} {as : List AV} {us : List Value} {bs : List Nat} {J : Nat → Prop} {w' : World}, as.all allSc = true → RepResL P I w ts as us bs → RepResL P J w' ts as us bs := by
  have cell : ∀ {t : TypeId} {a : AV} {u : Value} {bs : List Nat} {J : Nat → Prop} {w' : World} {v : Value}, a = .sc v → RepH P I (fun _ => False) w t a u bs → RepH P J (fun _ => False) w' t a u bs := by
    intro t a u bs J w' v e h
    subst e
    simpa only [RepH, RepD] using h
  have cells : ∀ {cts : List TypeId} {as : List AV} {us : List Value} {bs : List Nat} {J : Nat → Prop} {w' : World}, (as.all fun | .sc _ => true | _ => false) = true → RepHL P I (fun _ => False) w cts as us bs → RepHL P J (fun _ => False) w' cts as us bs := by
    intro cts as
    induction as generalizing cts with
    | nil =>
      intro us bs J w' _ h
      cases cts <;> exact h
    | cons a as ih =>
      intro us bs J w' hs h
      cases cts with
      | nil => simp [RepHL] at h
      | cons t ts =>
        simp only [RepHL] at h ⊢
        simp only [List.all_cons, Bool.and_eq_true] at hs
        obtain ⟨u, us', b1, b2, e1, e2, h1, h2⟩ := h
        refine ⟨u, us', b1, b2, e1, e2, ?_, ih hs.2 h2⟩
        have ha := hs.1
        cases a <;> simp at ha
        exact cell rfl h1
  intro ts
  induction ts with
  | nil =>
    intro as us bs J w' hs h
    cases as with
    | nil => exact h
    | cons a as => simp [RepResL] at h
  | cons t ts ih =>
    intro as us bs J w' hs h
    cases as with
    | nil => simp [RepResL] at h
    | cons a as =>
      simp only [RepResL] at h ⊢
      simp only [List.all_cons, Bool.and_eq_true] at hs
      obtain ⟨u, us', b1, b2, e1, e2, h1, h2⟩ := h
      refine ⟨u, us', b1, b2, e1, e2, ?_, ih hs.2 h2⟩
      unfold RepRes at h1 ⊢
      split
      · rename_i hagg
        rw [if_pos hagg] at h1
        obtain ⟨cs, us, e3, e4, h3⟩ := h1
        subst e3
        exact ⟨cs, us, rfl, e4, cells hs.1 h3⟩
      · rename_i hagg
        rw [if_neg hagg] at h1
        have ha := hs.1
        cases a with
        | sc v => exact cell rfl h1
        | agg cs => simp [RepH, RepD] at h1
        | _ => simp [allSc] at ha

theorem call_ok (G : Gam I K m hp w) {E : Cfg} {call : Orc} (hC : OrcOk P call) {d f : Nat} {args : List AV} {us : List Value} {v : AV} (hr : AllR (Rep k I m hp w) args us) (h : (callP P E k d call f args).run hp = some (v, hp')) :
    okFn P f = true ∧ Calls P f ⟨us⟩ w (fun e w' => ∃ u, e = .returned u ∧ ∃ I' m', Sim I' K m' hp' w' v k I m hp w u) := by
  unfold callP at h
  split at h
  case isFalse => simp [Prog.run] at h
  rename_i hok
  refine ⟨hok, ?_⟩
  split at h
  · simp only [Prog.run] at h
    split at h
    · rename_i v1 hp1 hx
      simp only [Option.some.injEq, Prod.mk.injEq] at h
      obtain ⟨rfl, rfl⟩ := h
      exact hC.2 k d f args hp _ _ hx hok I K m w us G hr
    · cases h
  obtain ⟨as, hp1, r1, h2⟩ := run_bind_some h
  clear h
  split at h2
  case h_2 => simp [Prog.run] at h2
  rename_i rs hrs
  split at h2
  case isFalse => simp [Prog.run] at h2
  rename_i hfl
  cases hflat : flatF P f with
  | false =>
    rw [hflat] at r1
    obtain ⟨I1, G1, E1, d1⟩ := args_frz G hr r1
    refine (hC.1 f as rs hrs hok I1 w us G1.ilt d1).mono fun e w' he => ?_
    obtain ⟨u, rfl, hp⟩ := he
    refine ⟨u, rfl, ?_⟩
    obtain ⟨I2, us', bs, rfl, i1, i2, i3, i4, i5, i6⟩ := hp.res
    obtain ⟨G2, E2⟩ := G1.world hp.old (hp.wx G1.ilt G1.klt) i1 i2 i3
    obtain ⟨m', G3, E3, R3⟩ := takeRes_ok G2 i6 (fun b hb hk => Nat.lt_irrefl _ (Nat.lt_of_lt_of_le (G1.klt b hk) (i4 b hb).1)) i5 (fun b hb ⟨x, q, hx, hq, e⟩ => Nat.lt_irrefl _ (Nat.lt_of_lt_of_le (e ▸ G1.blk hx hq) (i4 b hb).1)) h2
    exact ⟨I2, m', G3, (E1.trans E2).trans E3, R3⟩
  | true =>
    rw [hflat] at r1 hfl
    simp only [Bool.not_true, Bool.false_or] at hfl r1
    obtain ⟨e1, d1⟩ := args_bor G hr r1
    rw [e1] at h2
    refine (hC.1 f as rs hrs hok _ w us (fun b hb => hb.elim (G.ilt b) (fun ⟨x, q, hx, hq, e⟩ => e ▸ G.blk hx hq)) d1).mono fun e w' he => ?_
    obtain ⟨u, rfl, hp⟩ := he
    refine ⟨u, rfl, ?_⟩
    obtain ⟨I2, us', bs, rfl, i1, i2, i3, i4, i5, i6⟩ := hp.res
    obtain ⟨G2, E2⟩ := G.world hp.old (hp.wx G.ilt G.klt) (fun _ h => h) (fun _ h => .inl h) (fun b hb => Nat.lt_of_lt_of_le (G.ilt b hb) hp.size)
    obtain ⟨m', G3, E3, R3⟩ := takeRes_ok G2 (i6.flat hfl) (fun b hb hk => Nat.lt_irrefl _ (Nat.lt_of_lt_of_le (G.klt b hk) (i4 b hb).1)) i5 (fun b hb ⟨x, q, hx, hq, e⟩ => Nat.lt_irrefl _ (Nat.lt_of_lt_of_le (e ▸ G.blk hx hq) (i4 b hb).1)) h2
    exact ⟨I, m', G3, E2.trans E3, R3⟩

/-! ### one operation -/
theorem opR_value {o : Oper} {a : Act} {Post : Value → World → Prop} {u : Value} {w' : World} (h : (execOp a.eval o).run P w = .ok (.value u) w') (hp : Post u w') : OpR P o a w Post := by
  unfold OpR; rw [h]; exact hp
theorem opR_skip {o : Oper} {a : Act} {Post : Value → World → Prop} {w' : World} (h : (execOp a.eval o).run P w = .ok .skip w') (hp : Post undef w') : OpR P o a w Post := by
  unfold OpR; rw [h]; exact hp

theorem assign_ok (G : Gam I K m hp w) {y : Nm} (hy : y.d ≤ k) {t : TypeId} {a v : AV} {u : Value} (hr : Rep k I m hp w a u) (h : (assignP P y t a).run hp = some (v, hp')) :
    ∃ I' m', Sim I' K m' hp' w v k I m hp w u := by
  unfold assignP at h
  split at h
  · simp only [Rep] at hr
    subst hr
    split at h
    · rename_i e he
      simp only [newArr, Prog.run, Option.some.injEq, Prod.mk.injEq] at h
      obtain ⟨rfl, rfl⟩ := h
      obtain ⟨G2, E2⟩ := G.virt y (P.cellsOf e) e
      refine ⟨I, _, G2, E2, ?_⟩
      simp only [Rep]
      refine ⟨hy, by rw [upd_same]; exact Nat.le_refl _, fun sz e' rows' fz hx => ?_⟩
      rw [upd_same] at hx
      cases hx
      exact ⟨Nat.le_refl _, .inl ⟨upd_same _ _ _, trivial, rfl⟩⟩
    · simp [Prog.run] at h
  · simp only [Prog.run, Option.some.injEq, Prod.mk.injEq] at h
    obtain ⟨rfl, rfl⟩ := h
    exact ⟨I, m, G, .refl _ _ _ _ _, hr⟩

theorem parts_ok {fr : Nat → AV} {a : Act} (hf : ∀ t, Rep k I m hp w (fr t) (a.eval (.tmp t))) : ∀ {l : List (Nat × Operand)} {x : Unit} {hp1 : Hp}, (chkL (l.map fun p => opA fr p.2)).run hp = some (x, hp1) →
    hp1 = hp ∧ PartsR k I m hp w (l.map fun p => (p.1, opA fr p.2)) (l.map fun p => (p.1, a.eval p.2))
  | [], x, hp1, h => by
    simp only [List.map_nil, chkL, Prog.run, Option.some.injEq, Prod.mk.injEq] at h
    exact ⟨h.2.symm, trivial⟩
  | p :: l, x, hp1, h => by
    simp only [List.map_cons, chkL] at h
    obtain ⟨_, hp2, r1, h2⟩ := run_bind_some h
    obtain ⟨e1, hc, _⟩ := cells_ok r1 (opA_ok hf p.2)
    rw [e1] at h2
    obtain ⟨e2, hp⟩ := parts_ok hf h2
    exact ⟨e2, rfl, hc, hp⟩

theorem zeros_ok {t : TypeId} {z : List Value} (h : zeros P t = some z) : ∃ i v, P.info? t = some i ∧ i.zero = some v ∧ z = v.cells.toList := by
  unfold zeros at h
  cases hi : P.info? t with
  | none => simp [hi] at h
  | some i =>
    cases hz : i.zero with
    | none => simp [hi, hz] at h
    | some v => simp [hi, hz] at h; exact ⟨i, v, rfl, hz, h.symm⟩

theorem evOp_ok {E : Cfg} (hE : EqLaw P E.eq) {call : Orc} (hC : OrcOk P call) (G : Gam I K m hp w) {fr : Nat → AV} {a : Act} (hf : ∀ t, Rep k I m hp w (fr t) (a.eval (.tmp t))) {o : Oper} {v : AV}
    (h : (evOp P E k call fr o).run hp = some (v, hp')) : OpR P o a w (fun u w' => ∃ I' m', Sim I' K m' hp' w' v k I m hp w u) := by
  have hop := opA_ok hf
  obtain ⟨dst, op, type, pos, after, guard⟩ := o
  unfold evOp at h
  cases op <;> simp only at h
  case move x =>
    simp only [Prog.run, Option.some.injEq, Prod.mk.injEq] at h
    obtain ⟨rfl, rfl⟩ := h
    exact opR_value (by simp [execOp]) ⟨I, m, G, .refl _ _ _ _ _, hop x⟩
  case assign x =>
    exact opR_value (by simp [execOp]) (assign_ok G (Nat.le_refl k) (hop x) h)
  case pick c x y =>
    have hc := hop c
    split at h
    · rename_i t hct
      rw [hct] at hc
      simp only [Rep] at hc
      simp only [Prog.run, Option.some.injEq, Prod.mk.injEq] at h
      obtain ⟨rfl, rfl⟩ := h
      refine opR_value (u := if t then a.eval x else a.eval y) (w' := w) (by simp [execOp, hc, asBool]) ⟨I, m, G, .refl _ _ _ _ _, ?_⟩
      cases t
      · exact hop y
      · exact hop x
    · simp [Prog.run] at h
  case alloc t =>
    split at h
    · rename_i z hz
      obtain ⟨i, zv, hi, hzz, rfl⟩ := zeros_ok hz
      obtain ⟨I', m', G', E', R'⟩ := newBox_ok (D := k) (us := zv.cells.toList) G ⟨by simp, fun j a u h1 h2 => by rw [List.getElem?_map, h2] at h1; cases h1; simp only [Rep]⟩ h
      exact opR_value (by simp [execOp, Instr.alloc, zeroValue, typeInfo, hi, hzz, newVar, newRow]) ⟨I', m', G', E', R'⟩
    · simp [Prog.run] at h
  case box t x =>
    obtain ⟨_, hp1, r1, h2⟩ := run_bind_some h
    obtain ⟨e1, hc, _⟩ := cells_ok r1 (hop x)
    rw [e1] at h2
    obtain ⟨I', m', G', E', R'⟩ := newBox_ok G hc h2
    exact opR_value (by simp [execOp, Instr.box, newVar, newRow]) ⟨I', m', G', E', R'⟩
  case build t parts =>
    obtain ⟨_, hp1, r1, h2⟩ := run_bind_some h
    obtain ⟨e1, hpr⟩ := parts_ok hf r1
    rw [e1] at h2
    obtain ⟨e2, u', hrun, hrep⟩ := build_ok (us := parts.map fun p => (p.1, a.eval p.2)) (by simpa using hpr) h2
    subst e2
    exact opR_value (by simp [execOp, hrun]) ⟨I, m, G, .refl _ _ _ _ _, hrep⟩
  case buildSlice t n parts =>
    obtain ⟨_, hp1, r1, h2⟩ := run_bind_some h
    obtain ⟨e1, hpr⟩ := parts_ok hf r1
    rw [e1] at h2
    obtain ⟨u', w', I', m', hrun, G', E', hrep⟩ := buildSlice_ok (us := parts.map fun p => (p.1, a.eval p.2)) G (Nat.le_refl k) (by simpa using hpr) h2
    exact opR_value (by simp [execOp, hrun]) ⟨I', m', G', E', hrep⟩
  case load t x =>
    obtain ⟨rfl, u', hrun, hrep⟩ := load_ok P G (hop x) h
    exact opR_value (by simp [execOp, hrun]) ⟨I, m, G, .refl _ _ _ _ _, hrep⟩
  case store t x y =>
    split at h
    · rename_i hi
      obtain ⟨_, hp1, r1, h2⟩ := run_bind_some h
      obtain ⟨e1, hc, _⟩ := cells_ok r1 (hop y)
      rw [e1] at h2
      obtain ⟨rfl, w', I', m', hrun, G', E'⟩ := store_ok G (hop x) hc h2 hi
      exact opR_skip (by simp [execOp, hrun]) ⟨I', m', G', E', by simp only [Rep]⟩
    · simp [Prog.run] at h
  case nilCheck x =>
    obtain ⟨rfl, b, o, hu, hrep⟩ := shift_ok (hop x) h
    exact opR_value (u := a.eval x) (w' := w) (by simp [execOp, hu]) ⟨I, m, G, .refl _ _ _ _ _, by rw [hu]; simpa using hrep⟩
  case binOp op t x y p =>
    split at h
    · rename_i v' hv
      simp only [Prog.run, Option.some.injEq, Prod.mk.injEq] at h
      obtain ⟨rfl, rfl⟩ := h
      obtain ⟨r, hrun, hrep⟩ := bin_ok (x := x) (y := y) hE (hop x) (hop y) hv
      refine opR_value (u := r) (w' := w) ?_ ⟨I, m, G, .refl _ _ _ _ _, hrep⟩
      show ((do let x ← (do eqGuard op t x y (a.eval x) (a.eval y); Go.binOp op t (a.eval x) (a.eval y) : Sem Value); pure (Next.value x)) : Sem Next).run P w = _
      rw [Sem.run_bind, hrun]
      rfl
    · simp [Prog.run] at h
  case unOp op t x =>
    split at h
    · rename_i v' hv
      simp only [Prog.run, Option.some.injEq, Prod.mk.injEq] at h
      obtain ⟨rfl, rfl⟩ := h
      obtain ⟨r, hrun, hrep⟩ := un_ok (P := P) (hop x) hv
      exact opR_value (u := r) (w' := w) (by simp [execOp, hrun]) ⟨I, m, G, .refl _ _ _ _ _, hrep⟩
    · simp [Prog.run] at h
  case convert s d x =>
    obtain ⟨u', w', m', hrun, G', E', hrep⟩ := convert_ok G (Nat.le_refl k) (hop x) h
    exact opR_value (by simp [execOp, hrun]) ⟨I, m', G', E', hrep⟩
  case makeSlice t l c =>
    obtain ⟨u', w', m', hrun, G', E', hrep⟩ := make_ok G (Nat.le_refl k) (hop l) (hop c) h
    exact opR_value (by simp [execOp, hrun]) ⟨I, m', G', E', hrep⟩
  case slice t x lo hi mx =>
    have ho : ∀ z : Option Operand, oRep k I m hp w (z.map (opA fr)) (z.map a.eval) := fun z => by
      cases z with
      | none => trivial
      | some z => exact hop z
    obtain ⟨I', u', hrun, G', E', hrep⟩ := slice_ok G (hop x) (ho lo) (ho hi) (ho mx) h
    exact opR_value (by simp only [execOp, Sem.run_bind, hrun]; rfl) ⟨I', m, G', E', hrep⟩
  case fieldAddr s x f =>
    obtain ⟨rfl, u', hrun, hrep⟩ := field_ok (hop x) h
    exact opR_value (by simp [execOp, hrun]) ⟨I, m, G, .refl _ _ _ _ _, hrep⟩
  case field t x f =>
    obtain ⟨rfl, u', hrun, hrep⟩ := fieldV_ok (hop x) h
    exact opR_value (by simp [execOp, hrun]) ⟨I, m, G, .refl _ _ _ _ _, hrep⟩
  case indexAddr t x i =>
    obtain ⟨rfl, u', hrun, hrep⟩ := index_ok (hop x) (hop i) h
    exact opR_value (by simp [execOp, hrun]) ⟨I, m, G, .refl _ _ _ _ _, hrep⟩
  case index t x i =>
    obtain ⟨rfl, u', hrun, hrep⟩ := indexV_ok (hop x) (hop i) h
    exact opR_value (by simp [execOp, hrun]) ⟨I, m, G, .refl _ _ _ _ _, hrep⟩
  case extract t i =>
    have hx := hop t
    split at h
    · rename_i vs hvs
      rw [hvs] at hx
      simp only [Rep] at hx
      obtain ⟨us, hu, hall⟩ := hx
      split at h
      · rename_i v' hv
        simp only [Prog.run, Option.some.injEq, Prod.mk.injEq] at h
        obtain ⟨rfl, rfl⟩ := h
        obtain ⟨u, h1, h2⟩ := ((RepL_iff _ _).1 hall).get hv
        exact opR_value (u := u) (w' := w) (by simp [execOp, hu, Instr.extract, h1]) ⟨I, m, G, .refl _ _ _ _ _, h2⟩
      · simp [Prog.run] at h
    · simp [Prog.run] at h
  case call c =>
    obtain ⟨callee, args, argTypes⟩ := c
    simp only at h
    split at h
    · rename_i x t e2 e3
      have e2' : args = #[x] := Array.ext' e2
      have e3' : argTypes = #[t] := Array.ext' e3
      subst e2' e3'
      obtain ⟨rfl, u', hrun, hrep⟩ := len_ok (ty := type) (hop x) h
      exact opR_value (by simp [execOp, resolve, invoke, builtin, hrun]) ⟨I, m, G, .refl _ _ _ _ _, hrep⟩
    · rename_i s x t t' e2 e3
      have e2' : args = #[s, x] := Array.ext' e2
      have e3' : argTypes = #[t, t'] := Array.ext' e3
      subst e2' e3'
      obtain ⟨u', w', m', hrun, G', E', hrep⟩ := append_ok (ty := type) G (Nat.le_refl k) (hop s) (hop x) h
      exact opR_value (by simp [execOp, resolve, invoke, builtin, hrun]) ⟨I, m', G', E', hrep⟩
    · rename_i f
      have hall : AllR (Rep k I m hp w) (args.toList.map (opA fr)) (args.toList.map a.eval) := by
        refine ⟨by simp, fun j x u h1 h2 => ?_⟩
        rw [List.getElem?_map] at h1 h2
        cases hj : args.toList[j]? with
        | none => rw [hj] at h1; cases h1
        | some z => rw [hj] at h1 h2; cases h1; cases h2; exact hop z
      obtain ⟨hok, hcalls⟩ := call_ok G hC hall h
      have harr : (⟨args.toList.map a.eval⟩ : Array Value) = args.map a.eval := by apply Array.ext'; simp
      rw [harr] at hcalls
      unfold okFn at hok
      split at hok
      · rename_i fn hfn
        simp only [Bool.and_eq_true, Bool.not_eq_true'] at hok
        have hrun : (execOp a.eval ⟨dst, .call ⟨.value (.func f), args, argTypes⟩, type, pos, after, guard⟩).run P w = .ok (.enter f (args.map a.eval)) w := by
          have hb : fn.body ≠ none := fun hq => by simp [hq] at hok
          have hnm : fn.name ≠ "runtime.NumGoroutine" := by simpa using hok.2
          simp [execOp, resolve, Act.eval, Deferred.ofValue, invoke, callFunc, hfn, hnm, hb]
        unfold OpR
        rw [hrun]
        exact hcalls
      · cases hok
    · simp [Prog.run] at h
  all_goals simp [Prog.run] at h
end
end Go.Ab
