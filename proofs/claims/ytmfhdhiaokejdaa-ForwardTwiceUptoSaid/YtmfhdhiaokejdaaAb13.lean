/- What is handed to a call, and taken from it. No program of Go is named here. -/
import Derived.Test.YtmfhdhiaokejdaaAb12
namespace Go.Ab
open Go
set_option linter.unusedSimpArgs false
set_option linter.unusedVariables false

/-- An argument: data, or a struct or array of data. -/
def RepA (I : Nat → Prop) (w : World) (a : AV) (u : Value) : Prop := match a with
  | .agg cs => ∃ us, u = .agg ⟨us⟩ ∧ RepDL I w cs us
  | a => RepD I w a u
def RepAL (I : Nat → Prop) (w : World) : List AV → List Value → Prop
  | [], us => us = []
  | a :: as, us => ∃ v vs, us = v :: vs ∧ RepA I w a v ∧ RepAL I w as vs
/-- A result. -/
def RepRes (P : Program) (I : Nat → Prop) (w : World) (t : TypeId) (a : AV) (u : Value) (bs : List Nat) : Prop :=
  if isAggB P t then ∃ cs us, a = .agg cs ∧ u = .agg ⟨us⟩ ∧ RepHL P I (fun _ => False) w (tcs P t) cs us bs else RepH P I (fun _ => False) w t a u bs
def RepResL (P : Program) (I : Nat → Prop) (w : World) : List TypeId → List AV → List Value → List Nat → Prop
  | [], [], us, bs => us = [] ∧ bs = []
  | t :: ts, a :: as, us, bs => ∃ u us' b1 b2, us = u :: us' ∧ bs = b1 ++ b2 ∧ RepRes P I w t a u b1 ∧ RepResL P I w ts as us' b2
  | _, _, _, _ => False
def retV : List Value → Value
  | [v] => v
  | vs => .tuple ⟨vs⟩

section
variable {P : Program} {I K : Nat → Prop} {m : Mp} {hp hp' : Hp} {w : World} {k : Nat}

theorem chk_same {v : AV} {x : Unit} (h : (chk v).run hp = some (x, hp')) : hp' = hp := by
  unfold chk at h
  split at h
  all_goals first | (simp [Prog.run] at h; done) | skip
  · simp only [Prog.run] at h
    split at h
    · split at h
      · simp only [Prog.run, Option.some.injEq, Prod.mk.injEq] at h; exact h.2.symm
      · simp [Prog.run] at h
    · simp [Prog.run] at h
  · simp only [Prog.run, Option.some.injEq, Prod.mk.injEq] at h; exact h.2.symm

theorem cells_ok {v : AV} {u : Value} {x : Unit} (hn : (chk v).run hp = some (x, hp')) (hr : Rep k I m hp w v u) : hp' = hp ∧ AllR (Rep k I m hp w) (cellsA v) u.cells.toList ∧ ∃ us, u = (if aggA v then .agg ⟨us⟩ else u) ∧ (aggA v = false → u.cells.toList = [u]) := by
  refine ⟨chk_same hn, ?_⟩
  have h0 := hr
  cases v with
  | any => simp [chk, Prog.run] at hn
  | ptr x g o => simp [chk, Prog.run] at hn
  | eptr x g i o => simp [chk, Prog.run] at hn
  | sc x =>
    simp only [Rep] at hr
    subst hr
    cases u with
    | agg us =>
      refine ⟨⟨by simp [cellsA, Value.cells], fun j a v h1 h2 => ?_⟩, us.toList, by simp [aggA], fun h => by simp [aggA] at h⟩
      simp only [cellsA, List.getElem?_map] at h1
      simp only [Value.cells] at h2
      rw [h2] at h1
      cases h1
      simp only [Rep]
    | _ => exact ⟨.cons (by simp only [Rep]) .nil, [], rfl, fun _ => rfl⟩
  | sl f sz rows =>
    simp only [Rep, RepD] at hr
    obtain ⟨A, cap, rfl, _⟩ := hr
    exact ⟨.cons h0 .nil, [], rfl, fun _ => rfl⟩
  | dp c o =>
    simp only [Rep, RepD] at hr
    obtain ⟨b, o, us, rfl, _⟩ := hr
    exact ⟨.cons h0 .nil, [], rfl, fun _ => rfl⟩
  | agg cs =>
    simp only [Rep] at hr
    obtain ⟨us, rfl, hr⟩ := hr
    exact ⟨(RepL_iff _ _).1 hr, us, rfl, fun h => by simp [aggA] at h⟩
  | tup cs =>
    simp only [Rep] at hr
    obtain ⟨us, rfl, hr⟩ := hr
    exact ⟨.cons h0 .nil, [], rfl, fun _ => rfl⟩
  | fn f cs =>
    simp only [Rep] at hr
    obtain ⟨us, rfl, hr⟩ := hr
    exact ⟨.cons h0 .nil, [], rfl, fun _ => rfl⟩
  | vec sz rows => simp [Rep] at hr
  | own x g n =>
    simp only [chk, Prog.run] at hn
    cases hx : hp x with
    | no g' => rw [hx] at hn; simp [Prog.run, AObj.head] at hn
    | box g' c f => rw [hx] at hn; simp [Prog.run, AObj.head] at hn
    | arr g' sz e rows f =>
      rw [hx] at hn
      simp only [AObj.head] at hn
      split at hn
      · rename_i hg
        subst hg
        simp only [Rep] at hr
        obtain ⟨_, _, hr⟩ := hr
        obtain ⟨_, hr⟩ := hr sz e rows f hx
        rcases hr with ⟨_, rfl, _⟩ | ⟨b, cap, _, rfl⟩
        · exact ⟨.cons h0 .nil, [], rfl, fun _ => rfl⟩
        · exact ⟨.cons h0 .nil, [], rfl, fun _ => rfl⟩
      · simp [Prog.run] at hn

/-! ### arguments -/
/-- One argument's cells as one argument. -/
theorem arg_of {J : Nat → Prop} {t : TypeId} {v : AV} {u : Value} {us : List Value} {cs : List AV} {hp1 : Hp} {a : AV} (ha : aggA v = isAggB P t) (hu : u = (if aggA v then .agg ⟨us⟩ else u)) (hu2 : aggA v = false → u.cells.toList = [u])
    (hd : AllR (RepD J w) cs u.cells.toList) (h : (oneV (isAggB P t) cs).run hp1 = some (a, hp')) : hp' = hp1 ∧ RepA J w a u := by
  rw [← ha] at h
  unfold oneV at h
  cases hb : aggA v with
  | true =>
    rw [hb] at h hu
    simp only [if_true, Prog.run, Option.some.injEq, Prod.mk.injEq] at h hu
    obtain ⟨rfl, rfl⟩ := h
    refine ⟨rfl, us, hu, ?_⟩
    rw [RepDL_iff]
    rw [hu] at hd
    exact hd
  | false =>
    rw [hb] at h
    rw [hu2 hb] at hd
    simp only [Bool.false_eq_true, if_false] at h
    split at h
    · simp only [Prog.run, Option.some.injEq, Prod.mk.injEq] at h
      obtain ⟨rfl, rfl⟩ := h
      obtain ⟨v1, vs, e1, h1, _⟩ := hd.cons_inv
      cases e1
      refine ⟨rfl, ?_⟩
      unfold RepA
      split
      · simp [RepD] at h1
      · exact h1
    · simp [Prog.run] at h

theorem args_frz : ∀ {ts : List TypeId} {as as' : List AV} {us : List Value} {I : Nat → Prop} {hp hp' : Hp}, Gam I K m hp w → AllR (Rep k I m hp w) as us → (argsP P true ts as).run hp = some (as', hp') →
    ∃ I', Gam I' K m hp' w ∧ Ext I K m hp w I' m hp' w ∧ AllR (RepA I' w) as' us
  | [], [], as', us, I, hp, hp', G, hr, h => by
    simp only [argsP, Prog.run, Option.some.injEq, Prod.mk.injEq] at h
    obtain ⟨rfl, rfl⟩ := h
    have : us = [] := List.eq_nil_of_length_eq_zero (by rw [← hr.1]; rfl)
    subst this
    exact ⟨I, G, .refl _ _ _ _ _, .nil⟩
  | [], _ :: _, _, _, _, _, _, _, _, h => by simp [argsP, Prog.run] at h
  | _ :: _, [], _, _, _, _, _, _, _, h => by simp [argsP, Prog.run] at h
  | t :: ts, v :: vs, as', us, I, hp, hp', G, hr, h => by
    obtain ⟨u, us', rfl, h1, h2⟩ := hr.cons_inv
    simp only [argsP] at h
    split at h
    case isFalse => simp [Prog.run] at h
    rename_i hc
    obtain ⟨hl, ha⟩ := hc
    obtain ⟨x, hp0, r0, h3⟩ := run_bind_some h
    clear h
    obtain ⟨rfl, hcl, us1, hu1, hu2⟩ := cells_ok r0 h1
    obtain ⟨cs, hp1, r1, h4⟩ := run_bind_some h3
    clear h3
    obtain ⟨r, hp2, r2, h5⟩ := run_bind_some h4
    clear h4
    obtain ⟨I1, G1, E1, d1⟩ := toDatL_frz G hcl r1
    obtain ⟨I2, G2, E2, d2⟩ := args_frz G1 (h2.imp fun a u h => Rep.mono E1 k a u h) r2
    obtain ⟨a, hp3, r3, h6⟩ := run_bind_some h5
    clear h5
    simp only [Prog.run, Option.some.injEq, Prod.mk.injEq] at h6
    obtain ⟨rfl, ha2⟩ := arg_of ha hu1 hu2 (d1.imp fun a u h => RepD.mono E2.isub (fun _ _ => rfl) _ _ h) r3
    obtain ⟨rfl, rfl⟩ := h6
    exact ⟨I2, G2, E1.trans E2, .cons ha2 d2⟩

theorem args_bor : ∀ {ts : List TypeId} {as as' : List AV} {us : List Value} {hp' : Hp}, Gam I K m hp w → AllR (Rep k I m hp w) as us → (argsP P false ts as).run hp = some (as', hp') →
    hp' = hp ∧ AllR (RepA (fun b => I b ∨ LiveB m hp b) w) as' us
  | [], [], as', us, hp', G, hr, h => by
    simp only [argsP, Prog.run, Option.some.injEq, Prod.mk.injEq] at h
    obtain ⟨rfl, rfl⟩ := h
    have : us = [] := List.eq_nil_of_length_eq_zero (by rw [← hr.1]; rfl)
    subst this
    exact ⟨rfl, .nil⟩
  | [], _ :: _, _, _, _, _, _, h => by simp [argsP, Prog.run] at h
  | _ :: _, [], _, _, _, _, _, h => by simp [argsP, Prog.run] at h
  | t :: ts, v :: vs, as', us, hp', G, hr, h => by
    obtain ⟨u, us', rfl, h1, h2⟩ := hr.cons_inv
    simp only [argsP] at h
    split at h
    case isFalse => simp [Prog.run] at h
    rename_i hc
    obtain ⟨hl, ha⟩ := hc
    obtain ⟨x, hp0, r0, h3⟩ := run_bind_some h
    clear h
    obtain ⟨e0, hcl, us1, hu1, hu2⟩ := cells_ok r0 h1
    obtain ⟨cs, hp1, r1, h4⟩ := run_bind_some h3
    clear h3
    obtain ⟨r, hp2, r2, h5⟩ := run_bind_some h4
    clear h4
    rw [e0] at r1
    obtain ⟨e1, d1⟩ := toDatL_bor G hcl r1
    rw [e1] at r2
    obtain ⟨e2, d2⟩ := args_bor G h2 r2
    obtain ⟨a, hp3, r3, h6⟩ := run_bind_some h5
    clear h5
    simp only [Prog.run, Option.some.injEq, Prod.mk.injEq] at h6
    obtain ⟨e3, ha2⟩ := arg_of ha hu1 hu2 d1 r3
    obtain ⟨rfl, rfl⟩ := h6
    rw [e2] at e3
    refine ⟨e3, ?_⟩
    exact .cons ha2 d2

/-! ### what came of a call -/
theorem takeCell_ok (G : Gam I K m hp w) {y : Nm} (hy : y.d ≤ k) {ct : TypeId} {a v : AV} {u : Value} {bs : List Nat} (hr : RepH P I K w ct a u bs) (hb : ∀ b ∈ bs, ¬ LiveB m hp b)
    (h : (takeCell P ct y a).run hp = some (v, hp')) :
    ∃ m', Gam I K m' hp' w ∧ Ext I K m hp w I m' hp' w ∧ Rep k I m' hp' w v u ∧ (∀ b, LiveB m' hp' b → LiveB m hp b ∨ b ∈ bs) := by
  have same : ∀ (v : AV), RepD I w v u → hp' = hp → ∃ m', Gam I K m' hp' w ∧ Ext I K m hp w I m' hp' w ∧ Rep k I m' hp' w v u ∧ (∀ b, LiveB m' hp' b → LiveB m hp b ∨ b ∈ bs) :=
    fun v hd e => by subst e; exact ⟨m, G, .refl _ _ _ _ _, hd.rep, fun _ h => .inl h⟩
  cases a with
  | vec sz rows =>
    simp only [takeCell] at h
    split at h
    · rename_i e he
      simp only [Prog.run, Option.some.injEq, Prod.mk.injEq] at h
      obtain ⟨rfl, rfl⟩ := h
      have hg : (hp y).gen < (AObj.arr ((hp y).gen + 1) sz e rows false).gen := by simp [AObj.gen]
      have live : ∀ (p : Option (Nat × Nat)), (∀ q, p = some q → q.1 ∈ bs) → ∀ b, LiveB (upd m y p) (upd hp y (.arr ((hp y).gen + 1) sz e rows false)) b → LiveB m hp b ∨ b ∈ bs := by
        rintro p hp2 b ⟨x, q, hx, hq, rfl⟩
        by_cases hxy : x = y
        · subst hxy; rw [upd_same] at hq; exact .inr (hp2 q hq)
        · rw [upd_other _ _ hxy] at hx hq; exact .inl ⟨x, q, hx, hq, rfl⟩
      rcases hr with ⟨rfl, rfl, rfl⟩ | ⟨b, cap, us, mk, e', rfl, rfl, h3, h4, h5, h6, h7, h8, h9, h10, h11⟩
      · obtain ⟨G2, E2⟩ := G.virt y sz e
        refine ⟨_, G2, E2, ?_, live none (fun q hq => by cases hq)⟩
        simp only [Rep]
        refine ⟨hy, by rw [upd_same]; exact Nat.le_refl _, fun sz e' rows' fz hx => ?_⟩
        rw [upd_same] at hx
        cases hx
        exact ⟨Nat.le_refl _, .inl ⟨upd_same _ _ _, trivial, rfl⟩⟩
      · rw [he] at h3
        cases h3
        have hW : WX I K w w := .refl I K w
        refine ⟨upd m y (some (b, cap)), G.bump hW (fun _ h => h) hg (.inr ⟨b, cap, us, mk, upd_same _ _ _, h4, h5, h6, h7, h8, h9, fun h => (by cases h), fun _ => ⟨h10, h11⟩⟩) (fun _ _ _ _ _ => rfl) (fun _ _ _ _ _ _ h => h) ?_ G.ilt G.ik, .bump hW (fun _ h => h) hg, ?_, live _ (fun q hq => by cases hq; simp)⟩
        · intro _ r hr2 x hx hl q hq e2
          cases hr2
          exact hb b (by simp) ⟨x, q, hl, hq, e2.symm⟩
        · simp only [Rep]
          refine ⟨hy, by rw [upd_same]; exact Nat.le_refl _, fun sz e' rows' fz hx => ?_⟩
          rw [upd_same] at hx
          cases hx
          exact ⟨Nat.le_refl _, .inr ⟨_, _, upd_same _ _ _, rfl⟩⟩
    · simp [Prog.run] at h
  | sc x =>
    simp only [takeCell, Prog.run, Option.some.injEq, Prod.mk.injEq] at h
    obtain ⟨rfl, rfl⟩ := h
    exact same _ hr.2 rfl
  | sl f sz rows =>
    simp only [takeCell, Prog.run, Option.some.injEq, Prod.mk.injEq] at h
    obtain ⟨rfl, rfl⟩ := h
    exact same _ hr.2 rfl
  | dp c o =>
    simp only [takeCell, Prog.run, Option.some.injEq, Prod.mk.injEq] at h
    obtain ⟨rfl, rfl⟩ := h
    exact same _ hr.2 rfl
  | any | ptr | eptr | agg | tup | own | fn => simp [takeCell, Prog.run] at h

theorem takeL_ok {d : Nat} : ∀ {c : Nat} {cts : List TypeId} {as as' : List AV} {us : List Value} {bs : List Nat} {m : Mp} {hp hp' : Hp}, Gam I K m hp w → RepHL P I K w cts as us bs → bs.Nodup → (∀ b ∈ bs, ¬ LiveB m hp b) →
    (takeL P k d c cts as).run hp = some (as', hp') →
    ∃ m', Gam I K m' hp' w ∧ Ext I K m hp w I m' hp' w ∧ AllR (Rep k I m' hp' w) as' us ∧ (∀ b, LiveB m' hp' b → LiveB m hp b ∨ b ∈ bs)
  | c, cts, [], as', us, bs, m, hp, hp', G, hr, hn, hb, h => by
    have e : us = [] ∧ bs = [] := by cases cts <;> simpa [RepHL] using hr
    obtain ⟨rfl, rfl⟩ := e
    cases cts <;> simp only [takeL, Prog.run, Option.some.injEq, Prod.mk.injEq] at h <;> obtain ⟨rfl, rfl⟩ := h <;> exact ⟨m, G, .refl _ _ _ _ _, .nil, fun _ h => .inl h⟩
  | c, [], a :: as, _, _, _, _, _, _, _, _, _, _, h => by simp [takeL, Prog.run] at h
  | c, t :: ts, a :: as, as', us, bs, m, hp, hp', G, hr, hn, hb, h => by
    simp only [RepHL] at hr
    obtain ⟨u, us', b1, b2, rfl, rfl, h1, h2⟩ := hr
    simp only [takeL] at h
    obtain ⟨v1, hp1, r1, h3⟩ := run_bind_some h
    clear h
    obtain ⟨vs, hp2, r2, h4⟩ := run_bind_some h3
    clear h3
    simp only [Prog.run, Option.some.injEq, Prod.mk.injEq] at h4
    obtain ⟨rfl, rfl⟩ := h4
    rw [List.nodup_append] at hn
    obtain ⟨n1, n2, n3⟩ := hn
    obtain ⟨m1, G1, E1, d1, l1⟩ := takeCell_ok G (Nat.le_refl _) h1 (fun b hb1 => hb b (List.mem_append.2 (.inl hb1))) r1
    obtain ⟨m2, G2, E2, d2, l2⟩ := takeL_ok G1 h2 n2 (fun b hb2 hl => (l1 b hl).elim (hb b (List.mem_append.2 (.inr hb2))) (fun hb1 => n3 b hb1 b hb2 rfl)) r2
    refine ⟨m2, G2, E1.trans E2, .cons (Rep.mono E2 _ _ _ d1) d2, fun b hb3 => ?_⟩
    rcases l2 b hb3 with h | h
    · rcases l1 b h with h | h
      · exact .inl h
      · exact .inr (List.mem_append.2 (.inl h))
    · exact .inr (List.mem_append.2 (.inr h))

/-- K of the caller's, for what a call has made. -/
theorem RepH.anyK {bs : List Nat} (hI : ∀ b ∈ bs, ¬ K b) {ct : TypeId} {a : AV} {u : Value} (h : RepH P I (fun _ => False) w ct a u bs) : RepH P I K w ct a u bs := by
  cases a with
  | vec sz rows =>
    rcases h with h | ⟨b, cap, us, mk, e, h1, h2, h3, h4, h5, h6, h7, h8, h9, h10, h11⟩
    · exact .inl h
    · exact .inr ⟨b, cap, us, mk, e, h1, h2, h3, h4, h5, h6, h7, h8, h9, h10, hI b (by rw [h1]; simp)⟩
  | _ => exact h
theorem RepHL.anyK : ∀ {cts : List TypeId} {as : List AV} {us : List Value} {bs : List Nat}, (∀ b ∈ bs, ¬ K b) → RepHL P I (fun _ => False) w cts as us bs → RepHL P I K w cts as us bs
  | cts, [], _, _, _, h => by cases cts <;> simpa [RepHL] using h
  | [], _ :: _, _, _, _, h => by simp [RepHL] at h
  | t :: ts, a :: as, us, bs, hk, h => by
    simp only [RepHL] at h ⊢
    obtain ⟨u, us', b1, b2, rfl, rfl, h1, h2⟩ := h
    exact ⟨u, us', b1, b2, rfl, rfl, RepH.anyK (fun b hb => hk b (List.mem_append.2 (.inl hb))) h1, RepHL.anyK (fun b hb => hk b (List.mem_append.2 (.inr hb))) h2⟩

theorem takeOne_ok (G : Gam I K m hp w) {d c : Nat} {t : TypeId} {a v : AV} {u : Value} {bs : List Nat} (hr : RepRes P I w t a u bs) (hk : ∀ b ∈ bs, ¬ K b) (hn : bs.Nodup) (hb : ∀ b ∈ bs, ¬ LiveB m hp b)
    (h : (takeOne P k d c t a).run hp = some (v, hp')) :
    ∃ m', Gam I K m' hp' w ∧ Ext I K m hp w I m' hp' w ∧ Rep k I m' hp' w v u ∧ (∀ b, LiveB m' hp' b → LiveB m hp b ∨ b ∈ bs) := by
  unfold takeOne at h
  split at h
  case isFalse => simp [Prog.run] at h
  unfold RepRes at hr
  split at h
  · rename_i hagg
    rw [if_pos hagg] at hr
    obtain ⟨cs, us, rfl, rfl, hr⟩ := hr
    obtain ⟨cs', hp1, r1, h2⟩ := run_bind_some h
    clear h
    simp only [Prog.run, Option.some.injEq, Prod.mk.injEq] at h2
    obtain ⟨rfl, rfl⟩ := h2
    obtain ⟨m', G', E', d', l'⟩ := takeL_ok G (hr.anyK hk) hn hb r1
    refine ⟨m', G', E', ?_, l'⟩
    simp only [Rep]
    exact ⟨us, rfl, (RepL_iff _ _).2 d'⟩
  · rename_i hagg
    rw [if_neg hagg] at hr
    exact takeCell_ok G (Nat.le_refl _) (RepH.anyK hk hr) hb h

theorem takeAll_ok {d : Nat} : ∀ {c : Nat} {ts : List TypeId} {as as' : List AV} {us : List Value} {bs : List Nat} {m : Mp} {hp hp' : Hp}, Gam I K m hp w → RepResL P I w ts as us bs → (∀ b ∈ bs, ¬ K b) → bs.Nodup → (∀ b ∈ bs, ¬ LiveB m hp b) →
    (takeAll P k d c ts as).run hp = some (as', hp') →
    ∃ m', Gam I K m' hp' w ∧ Ext I K m hp w I m' hp' w ∧ AllR (Rep k I m' hp' w) as' us ∧ (∀ b, LiveB m' hp' b → LiveB m hp b ∨ b ∈ bs)
  | c, [], [], as', us, bs, m, hp, hp', G, hr, hk, hn, hb, h => by
    simp only [RepResL] at hr
    obtain ⟨rfl, rfl⟩ := hr
    simp only [takeAll, Prog.run, Option.some.injEq, Prod.mk.injEq] at h
    obtain ⟨rfl, rfl⟩ := h
    exact ⟨m, G, .refl _ _ _ _ _, .nil, fun _ h => .inl h⟩
  | c, [], _ :: _, _, _, _, _, _, _, _, _, _, _, _, h => by simp [takeAll, Prog.run] at h
  | c, _ :: _, [], _, _, _, _, _, _, _, _, _, _, _, h => by simp [takeAll, Prog.run] at h
  | c, t :: ts, a :: as, as', us, bs, m, hp, hp', G, hr, hk, hn, hb, h => by
    simp only [RepResL] at hr
    obtain ⟨u, us', b1, b2, rfl, rfl, h1, h2⟩ := hr
    simp only [takeAll] at h
    obtain ⟨v1, hp1, r1, h3⟩ := run_bind_some h
    clear h
    obtain ⟨vs, hp2, r2, h4⟩ := run_bind_some h3
    clear h3
    simp only [Prog.run, Option.some.injEq, Prod.mk.injEq] at h4
    obtain ⟨rfl, rfl⟩ := h4
    rw [List.nodup_append] at hn
    obtain ⟨n1, n2, n3⟩ := hn
    obtain ⟨m1, G1, E1, d1, l1⟩ := takeOne_ok G h1 (fun b hb1 => hk b (List.mem_append.2 (.inl hb1))) n1 (fun b hb1 => hb b (List.mem_append.2 (.inl hb1))) r1
    obtain ⟨m2, G2, E2, d2, l2⟩ := takeAll_ok G1 h2 (fun b hb2 => hk b (List.mem_append.2 (.inr hb2))) n2 (fun b hb2 hl => (l1 b hl).elim (hb b (List.mem_append.2 (.inr hb2))) (fun hb1 => n3 b hb1 b hb2 rfl)) r2
    refine ⟨m2, G2, E1.trans E2, .cons (Rep.mono E2 _ _ _ d1) d2, fun b hb3 => ?_⟩
    rcases l2 b hb3 with h | h
    · rcases l1 b h with h | h
      · exact .inl h
      · exact .inr (List.mem_append.2 (.inl h))
    · exact .inr (List.mem_append.2 (.inr h))

theorem RepResL.length : ∀ {ts : List TypeId} {as : List AV} {us : List Value} {bs : List Nat}, RepResL P I w ts as us bs → us.length = ts.length ∧ as.length = ts.length
  | [], [], _, _, h => by simp only [RepResL] at h; simp [h.1]
  | [], _ :: _, _, _, h => by simp [RepResL] at h
  | _ :: _, [], _, _, h => by simp [RepResL] at h
  | t :: ts, a :: as, us, bs, h => by
    simp only [RepResL] at h
    obtain ⟨u, us', b1, b2, rfl, rfl, h1, h2⟩ := h
    have := RepResL.length h2
    simp [this.1, this.2]

theorem takeRes_ok (G : Gam I K m hp w) {d : Nat} {ts : List TypeId} {as : List AV} {us : List Value} {bs : List Nat} {v : AV} (hr : RepResL P I w ts as us bs) (hk : ∀ b ∈ bs, ¬ K b) (hn : bs.Nodup) (hb : ∀ b ∈ bs, ¬ LiveB m hp b)
    (h : (takeRes P k d ts as).run hp = some (v, hp')) :
    ∃ m', Gam I K m' hp' w ∧ Ext I K m hp w I m' hp' w ∧ Rep k I m' hp' w v (retV us) := by
  unfold takeRes at h
  split at h
  · simp only [RepResL] at hr
    obtain ⟨u, us', b1, b2, rfl, rfl, h1, rfl, rfl⟩ := hr
    obtain ⟨m', G', E', d', l'⟩ := takeOne_ok G h1 (fun b h => hk b (by simpa using h)) (by simpa using hn) (fun b h => hb b (by simpa using h)) h
    exact ⟨m', G', E', d'⟩
  · rename_i hne
    obtain ⟨vs, hp1, r1, h2⟩ := run_bind_some h
    clear h
    simp only [Prog.run, Option.some.injEq, Prod.mk.injEq] at h2
    obtain ⟨rfl, rfl⟩ := h2
    obtain ⟨m', G', E', d', l'⟩ := takeAll_ok G hr hk hn hb r1
    refine ⟨m', G', E', ?_⟩
    have hl := hr.length
    have hus : retV us = .tuple ⟨us⟩ := by
      match us, hl with
      | [], _ => rfl
      | [x], ⟨h1, h2⟩ =>
        exfalso
        match ts, as, h1, h2 with
        | [t], [a], _, _ => exact hne t a rfl rfl
      | _ :: _ :: _, _ => rfl
    rw [hus]
    simp only [Rep]
    exact ⟨us, rfl, (RepL_iff _ _).2 d'⟩
end
end Go.Ab
