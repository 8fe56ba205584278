/- Values as data, laid into cells, handed over and taken: what the programs of Ab2 for these come to. No program of Go is named here. -/
import Derived.Test.YtmfhdhiaokejdaaAb4
namespace Go.Ab
open Go
set_option linter.unusedSimpArgs false
set_option linter.unusedVariables false

def LiveB (m : Mp) (hp : Hp) (b : Nat) : Prop := ∃ x p, (hp x).live = true ∧ m x = some p ∧ p.1 = b

section
variable {P : Program} {I K : Nat → Prop} {m : Mp} {hp hp' : Hp} {w : World} {D : Nat}

theorem dat_sc {ct : TypeId} {fz : Bool} {v : Value} {a' : AV} {J : Nat → Prop} (h : (toDat P fz ct (.sc v)).run hp = some (a', hp')) : hp' = hp ∧ RepD J w a' v := by
  unfold toDat at h
  split at h
  · rename_i heq
    simp only [AV.sc.injEq] at heq
    subst heq
    split at h <;> simp only [Prog.run, Option.some.injEq, Prod.mk.injEq, reduceCtorEq] at h
    obtain ⟨rfl, rfl⟩ := h
    refine ⟨rfl, ?_⟩
    simp only [RepD]
    exact ⟨none, 0, rfl, Nat.le_refl _, by simp [maxLen], by simp, .inl trivial⟩
  · rename_i v' _ heq
    simp only [AV.sc.injEq] at heq
    subst heq
    split at h <;> simp only [Prog.run, Option.some.injEq, Prod.mk.injEq, reduceCtorEq] at h
    rename_i hv
    obtain ⟨rfl, rfl⟩ := h
    exact ⟨rfl, by simp only [RepD]; exact ⟨trivial, hv⟩⟩
  all_goals first | (simp [Prog.run] at h; done) | (rename_i heq; simp at heq; done)

theorem sl_false {J : Nat → Prop} {f : Bool} {sz : Nat} {rows : List (List AV)} {u : Value} (h : RepD J w (.sl f sz rows) u) : RepD J w (.sl false sz rows) u := by
  simp only [RepD] at h ⊢
  obtain ⟨A, cap, h1, h2, h3, _, h5⟩ := h
  exact ⟨A, cap, h1, h2, h3, by simp, h5⟩

theorem toDat_frz (G : Gam I K m hp w) {ct : TypeId} {a a' : AV} {u : Value} (hr : Rep D I m hp w a u) (h : (toDat P true ct a).run hp = some (a', hp')) :
    ∃ I', Gam I' K m hp' w ∧ Ext I K m hp w I' m hp' w ∧ RepD I' w a' u := by
  cases a with
  | sc v =>
    simp only [Rep] at hr; subst hr
    obtain ⟨rfl, h2⟩ := dat_sc (J := I) (w := w) h
    exact ⟨I, G, .refl _ _ _ _ _, h2⟩
  | sl f sz rows =>
    simp only [toDat, Prog.run, Option.some.injEq, Prod.mk.injEq] at h
    obtain ⟨rfl, rfl⟩ := h
    simp only [Rep] at hr
    exact ⟨I, G, .refl _ _ _ _ _, sl_false hr⟩
  | dp c o =>
    simp only [toDat, Prog.run, Option.some.injEq, Prod.mk.injEq] at h
    obtain ⟨rfl, rfl⟩ := h
    simp only [Rep] at hr
    exact ⟨I, G, .refl _ _ _ _ _, hr⟩
  | own x g n =>
    simp only [toDat, Prog.run] at h
    cases hx : hp x with
    | no g' => rw [hx] at h; simp [Prog.run] at h
    | box g' c f => rw [hx] at h; simp [Prog.run] at h
    | arr g' sz e rows f =>
      rw [hx] at h
      simp only [if_true] at h
      split at h
      · rename_i hg
        subst hg
        simp only [Prog.run, Option.some.injEq, Prod.mk.injEq] at h
        obtain ⟨rfl, rfl⟩ := h
        obtain ⟨I', G', E', hb⟩ := G.freeze hx
        obtain ⟨_, _, hd⟩ := G.ownRows hx hr
        exact ⟨I', G', E', hd I' E'.isub hb⟩
      · simp [Prog.run] at h
  | any | ptr | eptr | agg | tup | vec | fn => simp [toDat, Prog.run] at h

theorem toDat_bor (G : Gam I K m hp w) {ct : TypeId} {a a' : AV} {u : Value} (hr : Rep D I m hp w a u) (h : (toDat P false ct a).run hp = some (a', hp')) :
    hp' = hp ∧ RepD (fun b => I b ∨ LiveB m hp b) w a' u := by
  have hi : ∀ b, I b → (I b ∨ LiveB m hp b) := fun _ h => .inl h
  cases a with
  | sc v =>
    simp only [Rep] at hr; subst hr
    exact dat_sc h
  | sl f sz rows =>
    simp only [toDat, Prog.run, Option.some.injEq, Prod.mk.injEq] at h
    obtain ⟨rfl, rfl⟩ := h
    simp only [Rep] at hr
    exact ⟨rfl, RepD.mono hi (fun _ _ => rfl) _ _ (sl_false hr)⟩
  | dp c o =>
    simp only [toDat, Prog.run, Option.some.injEq, Prod.mk.injEq] at h
    obtain ⟨rfl, rfl⟩ := h
    simp only [Rep] at hr
    exact ⟨rfl, RepD.mono hi (fun _ _ => rfl) _ _ hr⟩
  | own x g n =>
    simp only [toDat, Prog.run] at h
    cases hx : hp x with
    | no g' => rw [hx] at h; simp [Prog.run] at h
    | box g' c f => rw [hx] at h; simp [Prog.run] at h
    | arr g' sz e rows f =>
      rw [hx] at h
      simp only [Bool.false_eq_true, if_false] at h
      split at h
      · rename_i hg
        subst hg
        have h' : (AV.sl false sz (rows.take n), hp) = (a', hp') := by
          split at h <;> simpa [Prog.run] using h
        simp only [Prod.mk.injEq] at h'
        obtain ⟨rfl, rfl⟩ := h'
        obtain ⟨_, _, hd⟩ := G.ownRows hx hr
        exact ⟨rfl, hd _ hi (fun b c hc => .inr ⟨x, (b, c), by rw [hx]; rfl, hc, rfl⟩)⟩
      · simp [Prog.run] at h
  | any | ptr | eptr | agg | tup | vec | fn => simp [toDat, Prog.run] at h

theorem toDatL_frz : ∀ {cts : List TypeId} {as as' : List AV} {us : List Value} {I : Nat → Prop} {hp hp' : Hp}, Gam I K m hp w → AllR (Rep D I m hp w) as us → (toDatL P true cts as).run hp = some (as', hp') →
    ∃ I', Gam I' K m hp' w ∧ Ext I K m hp w I' m hp' w ∧ AllR (RepD I' w) as' us
  | cts, [], as', us, I, hp, hp', G, hr, h => by
    have : us = [] := List.eq_nil_of_length_eq_zero (by rw [← hr.1]; rfl)
    subst this
    cases cts <;> simp only [toDatL, Prog.run, Option.some.injEq, Prod.mk.injEq] at h <;> obtain ⟨rfl, rfl⟩ := h <;> exact ⟨I, G, .refl _ _ _ _ _, .nil⟩
  | [], a :: as, as', us, I, hp, hp', G, hr, h => by simp [toDatL, Prog.run] at h
  | ct :: cts, a :: as, as', us, I, hp, hp', G, hr, h => by
    obtain ⟨v, vs, rfl, h1, h2⟩ := hr.cons_inv
    simp only [toDatL] at h
    obtain ⟨a1, hp1, r1, h⟩ := run_bind_some h
    obtain ⟨as1, hp2, r2, h⟩ := run_bind_some h
    obtain ⟨I1, G1, E1, d1⟩ := toDat_frz G h1 r1
    obtain ⟨I2, G2, E2, d2⟩ := toDatL_frz G1 (h2.imp fun a u h => Rep.mono E1 D a u h) r2
    simp only [Prog.run, Option.some.injEq, Prod.mk.injEq] at h
    obtain ⟨rfl, rfl⟩ := h
    exact ⟨I2, G2, E1.trans E2, .cons (RepD.mono E2.isub (fun _ _ => rfl) _ _ d1) d2⟩

theorem toDatL_bor : ∀ {cts : List TypeId} {as as' : List AV} {us : List Value} {hp' : Hp}, Gam I K m hp w → AllR (Rep D I m hp w) as us → (toDatL P false cts as).run hp = some (as', hp') →
    hp' = hp ∧ AllR (RepD (fun b => I b ∨ LiveB m hp b) w) as' us
  | cts, [], as', us, hp', G, hr, h => by
    have : us = [] := List.eq_nil_of_length_eq_zero (by rw [← hr.1]; rfl)
    subst this
    cases cts <;> simp only [toDatL, Prog.run, Option.some.injEq, Prod.mk.injEq] at h <;> obtain ⟨rfl, rfl⟩ := h <;> exact ⟨rfl, .nil⟩
  | [], a :: as, as', us, hp', G, hr, h => by simp [toDatL, Prog.run] at h
  | ct :: cts, a :: as, as', us, hp', G, hr, h => by
    obtain ⟨v, vs, rfl, h1, h2⟩ := hr.cons_inv
    simp only [toDatL] at h
    obtain ⟨a1, hp1, r1, h⟩ := run_bind_some h
    obtain ⟨as1, hp2, r2, h⟩ := run_bind_some h
    obtain ⟨e1, d1⟩ := toDat_bor G h1 r1
    rw [e1] at r2
    obtain ⟨e2, d2⟩ := toDatL_bor G h2 r2
    rw [e2] at h
    simp only [Prog.run, Option.some.injEq, Prod.mk.injEq] at h
    obtain ⟨rfl, rfl⟩ := h
    exact ⟨rfl, .cons d1 d2⟩

theorem settle_ok (G : Gam I K m hp w) {y : Nm} {ct : TypeId} {a a' : AV} {u : Value} (hr : Rep D I m hp w a u) (h : (settle P y ct a).run hp = some (a', hp')) :
    ∃ I' m', Gam I' K m' hp' w ∧ Ext I K m hp w I' m' hp' w ∧ Rep y.d I' m' hp' w a' u ∧ u.oneCell' = true := by
  cases a with
  | sc v =>
    simp only [Rep] at hr; subst hr
    unfold settle at h
    split at h
    · rename_i heq
      simp only [AV.sc.injEq] at heq
      subst heq
      split at h
      · rename_i e he
        simp only [Prog.run, Option.some.injEq, Prod.mk.injEq] at h
        obtain ⟨rfl, rfl⟩ := h
        obtain ⟨G', E'⟩ := G.virt y (P.cellsOf e) e
        refine ⟨I, _, G', E', ?_, rfl⟩
        simp only [Rep]
        refine ⟨Nat.le_refl _, by rw [upd_same]; exact Nat.le_refl _, fun sz e' rows fz hx => ?_⟩
        rw [upd_same] at hx
        cases hx
        exact ⟨Nat.le_refl _, .inl ⟨upd_same _ _ _, trivial, trivial⟩⟩
      · simp [Prog.run] at h
    · rename_i v' _ heq
      simp only [AV.sc.injEq] at heq
      subst heq
      split at h
      · rename_i hv
        simp only [Prog.run, Option.some.injEq, Prod.mk.injEq] at h
        obtain ⟨rfl, rfl⟩ := h
        exact ⟨I, m, G, .refl _ _ _ _ _, by simp only [Rep], hv⟩
      · simp [Prog.run] at h
    all_goals first | (simp [Prog.run] at h; done) | (rename_i heq; simp at heq; done)
  | sl f sz rows =>
    simp only [settle, Prog.run, Option.some.injEq, Prod.mk.injEq] at h
    obtain ⟨rfl, rfl⟩ := h
    simp only [Rep] at hr
    exact ⟨I, m, G, .refl _ _ _ _ _, hr.rep, hr.one⟩
  | dp c o =>
    simp only [settle, Prog.run, Option.some.injEq, Prod.mk.injEq] at h
    obtain ⟨rfl, rfl⟩ := h
    simp only [Rep] at hr
    exact ⟨I, m, G, .refl _ _ _ _ _, hr.rep, hr.one⟩
  | own x g n =>
    simp only [settle, Prog.run] at h
    cases hx : hp x with
    | no g' => rw [hx] at h; simp [Prog.run] at h
    | box g' c f => rw [hx] at h; simp [Prog.run] at h
    | arr g' sz e rows f =>
      rw [hx] at h
      simp only at h
      split at h
      · rename_i hg
        subst hg
        obtain ⟨_, ho, hd⟩ := G.ownRows hx hr
        split at h
        · rename_i hxy
          subst hxy
          simp only [Prog.run, Option.some.injEq, Prod.mk.injEq] at h
          obtain ⟨rfl, rfl⟩ := h
          simp only [Rep] at hr
          exact ⟨I, m, G, .refl _ _ _ _ _, by simp only [Rep]; exact ⟨Nat.le_refl _, hr.2⟩, ho⟩
        · rename_i hxy
          split at h
          · rename_i hc
            obtain ⟨rfl, rfl⟩ := hc
            simp only [Prog.run, Option.some.injEq, Prod.mk.injEq, upd_other _ _ (Ne.symm hxy)] at h
            obtain ⟨rfl, rfl⟩ := h
            obtain ⟨G', E'⟩ := G.move hxy hx
            refine ⟨I, _, G', E', ?_, ho⟩
            simp only [Rep] at hr ⊢
            obtain ⟨_, _, hr⟩ := hr
            obtain ⟨_, hr⟩ := hr sz e rows false hx
            refine ⟨Nat.le_refl _, by rw [upd_same]; exact Nat.le_refl _, fun sz' e' rows' fz hx' => ?_⟩
            rw [upd_same] at hx'
            cases hx'
            exact ⟨Nat.le_refl _, by rw [upd_same]; exact hr⟩
          · simp only [Prog.run, Option.some.injEq, Prod.mk.injEq] at h
            obtain ⟨rfl, rfl⟩ := h
            obtain ⟨I', G', E', hb⟩ := G.freeze hx
            exact ⟨I', m, G', E', (hd I' E'.isub hb).rep, ho⟩
      · simp [Prog.run] at h
  | any | ptr | eptr | agg | tup | vec | fn => simp [settle, Prog.run] at h

theorem settleL_ok {d i : Nat} : ∀ {off : Nat} {cts : List TypeId} {as as' : List AV} {us : List Value} {I : Nat → Prop} {m : Mp} {hp hp' : Hp}, Gam I K m hp w → AllR (Rep D I m hp w) as us → (settleL P d i off cts as).run hp = some (as', hp') →
    ∃ I' m', Gam I' K m' hp' w ∧ Ext I K m hp w I' m' hp' w ∧ AllR (Rep d I' m' hp' w) as' us ∧ ∀ u ∈ us, u.oneCell' = true
  | off, cts, [], as', us, I, m, hp, hp', G, hr, h => by
    have : us = [] := List.eq_nil_of_length_eq_zero (by rw [← hr.1]; rfl)
    subst this
    cases cts <;> simp only [settleL, Prog.run, Option.some.injEq, Prod.mk.injEq] at h <;> obtain ⟨rfl, rfl⟩ := h <;> exact ⟨I, m, G, .refl _ _ _ _ _, .nil, by simp⟩
  | off, [], a :: as, as', us, I, m, hp, hp', G, hr, h => by simp [settleL, Prog.run] at h
  | off, ct :: cts, a :: as, as', us, I, m, hp, hp', G, hr, h => by
    obtain ⟨v, vs, rfl, h1, h2⟩ := hr.cons_inv
    simp only [settleL] at h
    obtain ⟨a1, hp1, r1, h⟩ := run_bind_some h
    obtain ⟨as1, hp2, r2, h⟩ := run_bind_some h
    obtain ⟨I1, m1, G1, E1, d1, o1⟩ := settle_ok G h1 r1
    obtain ⟨I2, m2, G2, E2, d2, o2⟩ := settleL_ok G1 (h2.imp fun a u h => Rep.mono E1 D a u h) r2
    simp only [Prog.run, Option.some.injEq, Prod.mk.injEq] at h
    obtain ⟨rfl, rfl⟩ := h
    refine ⟨I2, m2, G2, E1.trans E2, .cons (Rep.mono E2 _ _ _ d1) d2, fun u hu => ?_⟩
    rcases List.mem_cons.1 hu with rfl | hu
    · exact o1
    · exact o2 u hu

/-! ### handed over -/
/-- A result's cell: an owned list (block b), or data. -/
def RepH (P : Program) (I K : Nat → Prop) (w : World) (ct : TypeId) (a : AV) (u : Value) (bs : List Nat) : Prop :=
  match a with
  | .vec sz rows => (rows = [] ∧ u = .slice none 0 0 ∧ bs = []) ∨ ∃ b cap us mk e, bs = [b] ∧ u = .slice (some ⟨b, 0, none⟩) rows.length cap ∧ slel P ct = some e ∧ w.heap[b]? = some (.cells us e mk) ∧
      NoMark us mk ∧ us.size = cap * sz ∧ rows.length ≤ cap ∧ cap ≤ maxLen ∧ RepRows I w sz rows (us.toList.take (rows.length * sz)) ∧ ¬ I b ∧ ¬ K b
  | a => bs = [] ∧ RepD I w a u
def RepHL (P : Program) (I K : Nat → Prop) (w : World) : List TypeId → List AV → List Value → List Nat → Prop
  | _, [], us, bs => us = [] ∧ bs = []
  | [], _ :: _, _, _ => False
  | t :: ts, a :: as, us, bs => ∃ u us' b1 b2, us = u :: us' ∧ bs = b1 ++ b2 ∧ RepH P I K w t a u b1 ∧ RepHL P I K w ts as us' b2

theorem RepH.mono {I' : Nat → Prop} (hi : ∀ b, I b → I' b) {bs : List Nat} (hn : ∀ b ∈ bs, ¬ I b → ¬ I' b) {ct : TypeId} {a : AV} {u : Value} (h : RepH P I K w ct a u bs) : RepH P I' K w ct a u bs := by
  cases a with
  | vec sz rows =>
    rcases h with h | ⟨b, cap, us, mk, e, h1, h2, h3, h4, h5, h6, h7, h8, h9, h10, h11⟩
    · exact .inl h
    · exact .inr ⟨b, cap, us, mk, e, h1, h2, h3, h4, h5, h6, h7, h8, RepRows.mono hi (fun _ _ => rfl) _ _ _ h9, hn b (by rw [h1]; simp) h10, h11⟩
  | _ => exact ⟨h.1, RepD.mono hi (fun _ _ => rfl) _ _ h.2⟩

theorem handCell_ok (G : Gam I K m hp w) {ct : TypeId} {a a' : AV} {u : Value} (hr : Rep D I m hp w a u) (h : (handCell P ct a).run hp = some (a', hp')) :
    ∃ I' bs, Gam I' K m hp' w ∧ Ext I K m hp w I' m hp' w ∧ RepH P I' K w ct a' u bs ∧ (∀ b, I' b → I b ∨ LiveB m hp b) ∧ (∀ b ∈ bs, LiveB m hp b ∧ ¬ LiveB m hp' b) ∧ (∀ b, LiveB m hp' b → LiveB m hp b) ∧ bs.Nodup := by
  have same : ∀ (a' : AV) (u : Value), RepD I w a' u → ∃ I' bs, Gam I' K m hp w ∧ Ext I K m hp w I' m hp w ∧ RepH P I' K w ct a' u bs ∧ (∀ b, I' b → I b ∨ LiveB m hp b) ∧ (∀ b ∈ bs, LiveB m hp b ∧ ¬ LiveB m hp b) ∧ (∀ b, LiveB m hp b → LiveB m hp b) ∧ bs.Nodup :=
    fun a' u hd => ⟨I, [], G, .refl _ _ _ _ _, by cases a' <;> first | exact ⟨rfl, hd⟩ | simp [RepD] at hd, fun _ h => .inl h, by simp, fun _ h => h, by simp⟩
  cases a with
  | sc v =>
    simp only [Rep] at hr; subst hr
    unfold handCell at h
    split at h
    · rename_i heq
      simp only [AV.sc.injEq] at heq
      subst heq
      split at h
      · simp only [Prog.run, Option.some.injEq, Prod.mk.injEq] at h
        obtain ⟨rfl, rfl⟩ := h
        exact ⟨I, [], G, .refl _ _ _ _ _, .inl ⟨rfl, rfl, rfl⟩, fun _ h => .inl h, by simp, fun _ h => h, by simp⟩
      · simp [Prog.run] at h
    · rename_i v' _ heq
      simp only [AV.sc.injEq] at heq
      subst heq
      split at h
      · rename_i hv
        simp only [Prog.run, Option.some.injEq, Prod.mk.injEq] at h
        obtain ⟨rfl, rfl⟩ := h
        exact same _ _ (by simp only [RepD]; exact ⟨trivial, hv⟩)
      · simp [Prog.run] at h
    all_goals first | (simp [Prog.run] at h; done) | (rename_i heq; simp at heq; done)
  | sl f sz rows =>
    simp only [handCell, Prog.run, Option.some.injEq, Prod.mk.injEq] at h
    obtain ⟨rfl, rfl⟩ := h
    simp only [Rep] at hr
    exact same _ _ (sl_false hr)
  | dp c o =>
    simp only [handCell, Prog.run, Option.some.injEq, Prod.mk.injEq] at h
    obtain ⟨rfl, rfl⟩ := h
    simp only [Rep] at hr
    exact same _ _ hr
  | own x g n =>
    simp only [handCell, Prog.run] at h
    cases hx : hp x with
    | no g' => rw [hx] at h; simp [Prog.run] at h
    | box g' c f => rw [hx] at h; simp [Prog.run] at h
    | arr g' sz e rows f =>
      rw [hx] at h
      simp only at h
      split at h
      · rename_i hg
        subst hg
        obtain ⟨hn, ho, hd⟩ := G.ownRows hx hr
        split at h
        · rename_i hc
          obtain ⟨rfl, rfl, hsl⟩ := hc
          simp only [Prog.run, Option.some.injEq, Prod.mk.injEq] at h
          obtain ⟨rfl, rfl⟩ := h
          obtain ⟨G', E'⟩ := G.kill x (g := g' + 1) (by rw [hx]; simp [AObj.gen])
          have hlive : ∀ b, LiveB m (upd hp x (.no (g' + 1))) b → LiveB m hp b := fun b ⟨z, p, hz, hm, hb⟩ => by
            by_cases hzx : z = x
            · subst hzx; rw [upd_same] at hz; simp [AObj.live] at hz
            · rw [upd_other _ _ hzx] at hz; exact ⟨z, p, hz, hm, hb⟩
          have hobj := G.obj x
          rw [hx] at hobj
          simp only [Rep] at hr
          obtain ⟨_, _, hr⟩ := hr
          obtain ⟨_, hr⟩ := hr sz e rows false hx
          rcases hr with ⟨h0, rfl, h1⟩ | ⟨b, cap, hm, rfl⟩
          · exact ⟨I, [], G', E', .inl ⟨List.eq_nil_of_length_eq_zero h1, rfl, rfl⟩, fun _ h => .inl h, by simp, hlive, by simp⟩
          · rcases hobj with ⟨h1, h2⟩ | ⟨b', cap', us, mk, h1, h2, h3, h4, h5, h6, h7, h8, h9⟩
            · rw [h1] at hm; cases hm
            · rw [h1] at hm; cases hm
              refine ⟨I, [b], G', E', .inr ⟨b, cap, us, mk, e, rfl, rfl, hsl, h2, h3, h4, h5, h6, h7, h9 rfl⟩, fun _ h => .inl h, ?_, hlive, by simp⟩
              intro b' hb'
              simp only [List.mem_singleton] at hb'
              subst hb'
              refine ⟨⟨x, (b', cap), by rw [hx]; rfl, h1, rfl⟩, fun ⟨z, p, hz, hmz, hbz⟩ => ?_⟩
              by_cases hzx : z = x
              · subst hzx; rw [upd_same] at hz; simp [AObj.live] at hz
              · rw [upd_other _ _ hzx] at hz
                exact hzx (G.inj z x p (b', cap) hz (by rw [hx]; rfl) hmz h1 hbz)
        · simp only [Prog.run, Option.some.injEq, Prod.mk.injEq] at h
          obtain ⟨rfl, rfl⟩ := h
          obtain ⟨I', G', E', hb⟩ := G.freeze' hx
          obtain ⟨hb1, hb2⟩ := hb
          refine ⟨I', [], G', E', ⟨rfl, hd I' E'.isub hb1⟩, hb2, by simp, ?_, by simp⟩
          intro b ⟨z, p, hz, hm, hbz⟩
          by_cases hzx : z = x
          · subst hzx; exact ⟨z, p, by rw [hx]; rfl, hm, hbz⟩
          · rw [upd_other _ _ hzx] at hz; exact ⟨z, p, hz, hm, hbz⟩
      · simp [Prog.run] at h
  | any | ptr | eptr | agg | tup | vec | fn => simp [handCell, Prog.run] at h

theorem handL_ok : ∀ {cts : List TypeId} {as as' : List AV} {us : List Value} {I : Nat → Prop} {hp hp' : Hp}, Gam I K m hp w → AllR (Rep D I m hp w) as us → (handL P cts as).run hp = some (as', hp') →
    ∃ I' bs, Gam I' K m hp' w ∧ Ext I K m hp w I' m hp' w ∧ RepHL P I' K w cts as' us bs ∧ (∀ b, I' b → I b ∨ LiveB m hp b) ∧ (∀ b ∈ bs, LiveB m hp b ∧ ¬ LiveB m hp' b) ∧ (∀ b, LiveB m hp' b → LiveB m hp b) ∧ bs.Nodup
  | cts, [], as', us, I, hp, hp', G, hr, h => by
    have : us = [] := List.eq_nil_of_length_eq_zero (by rw [← hr.1]; rfl)
    subst this
    cases cts <;> simp only [handL, Prog.run, Option.some.injEq, Prod.mk.injEq] at h <;> obtain ⟨rfl, rfl⟩ := h <;> exact ⟨I, [], G, .refl _ _ _ _ _, by simp [RepHL], fun _ h => .inl h, by simp, fun _ h => h, by simp⟩
  | [], a :: as, as', us, I, hp, hp', G, hr, h => by simp [handL, Prog.run] at h
  | ct :: cts, a :: as, as', us, I, hp, hp', G, hr, h => by
    obtain ⟨v, vs, rfl, h1, h2⟩ := hr.cons_inv
    simp only [handL] at h
    obtain ⟨a1, hp1, r1, h⟩ := run_bind_some h
    obtain ⟨as1, hp2, r2, h⟩ := run_bind_some h
    obtain ⟨I1, b1, G1, E1, d1, i1, l1, m1, n1⟩ := handCell_ok G h1 r1
    obtain ⟨I2, b2, G2, E2, d2, i2, l2, m2, n2⟩ := handL_ok G1 (h2.imp fun a u h => Rep.mono E1 D a u h) r2
    simp only [Prog.run, Option.some.injEq, Prod.mk.injEq] at h
    obtain ⟨rfl, rfl⟩ := h
    refine ⟨I2, b1 ++ b2, G2, E1.trans E2, ⟨v, vs, b1, b2, rfl, rfl, d1.mono E2.isub (fun b hb hn hi => ?_), d2⟩, fun b hb => ?_, fun b hb => ?_, fun b hb => m1 b (m2 b hb), ?_⟩
    · rcases i2 b hi with hi | hi
      · exact hn hi
      · exact (l1 b hb).2 hi
    · rcases i2 b hb with hb | hb
      · exact i1 b hb
      · exact .inr (m1 b hb)
    · rcases List.mem_append.1 hb with hb | hb
      · exact ⟨(l1 b hb).1, fun hl => (l1 b hb).2 (m2 b hl)⟩
      · exact ⟨m1 b (l2 b hb).1, (l2 b hb).2⟩
    · rw [List.nodup_append]
      exact ⟨n1, n2, fun b hb1 c hc hbc => (l1 b hb1).2 (by rw [hbc]; exact (l2 c hc).1)⟩

end
end Go.Ab
