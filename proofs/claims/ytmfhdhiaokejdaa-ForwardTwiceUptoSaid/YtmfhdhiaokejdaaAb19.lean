/- Functions and calls. No program of Go is named here. -/
import Derived.Test.YtmfhdhiaokejdaaAb18
namespace Go.Ab
open Go
set_option linter.unusedSimpArgs false
set_option linter.unusedVariables false

section
variable {P : Program} {I K : Nat → Prop} {m : Mp} {hp hp' : Hp} {w : World} {k : Nat}

theorem RepH.bs {ct : TypeId} {a : AV} {u : Value} {bs : List Nat} (h : RepH P I K w ct a u bs) : ∀ b ∈ bs, ¬ I b ∧ ¬ K b := by
  cases a with
  | vec sz rows =>
    rcases h with ⟨_, _, rfl⟩ | ⟨b, cap, us, mk, e, rfl, h2, h3, h4, h5, h6, h7, h8, h9, h10, h11⟩
    · simp
    · intro c hc
      rw [List.mem_singleton] at hc
      subst hc
      exact ⟨h10, h11⟩
  | _ =>
    have : bs = [] := h.1
    subst this
    simp
theorem RepHL.bs : ∀ {cts : List TypeId} {as : List AV} {us : List Value} {bs : List Nat}, RepHL P I K w cts as us bs → ∀ b ∈ bs, ¬ I b ∧ ¬ K b
  | cts, [], _, bs, h => by
    have : bs = [] := by cases cts <;> simp only [RepHL] at h <;> exact h.2
    subst this; simp
  | [], _ :: _, _, _, h => by simp [RepHL] at h
  | t :: ts, a :: as, us, bs, h => by
    simp only [RepHL] at h
    obtain ⟨u, us', b1, b2, rfl, rfl, h1, h2⟩ := h
    intro b hb
    rcases List.mem_append.1 hb with hb | hb
    · exact RepH.bs h1 b hb
    · exact RepHL.bs h2 b hb
theorem RepH.noK {ct : TypeId} {a : AV} {u : Value} {bs : List Nat} (h : RepH P I K w ct a u bs) : RepH P I (fun _ => False) w ct a u bs := by
  cases a with
  | vec sz rows =>
    rcases h with h | ⟨b, cap, us, mk, e, h1, h2, h3, h4, h5, h6, h7, h8, h9, h10, h11⟩
    · exact .inl h
    · exact .inr ⟨b, cap, us, mk, e, h1, h2, h3, h4, h5, h6, h7, h8, h9, h10, fun h => h⟩
  | _ => exact h
theorem RepHL.noK : ∀ {cts : List TypeId} {as : List AV} {us : List Value} {bs : List Nat}, RepHL P I K w cts as us bs → RepHL P I (fun _ => False) w cts as us bs
  | cts, [], _, _, h => by cases cts <;> exact h
  | [], _ :: _, _, _, h => by simp [RepHL] at h
  | t :: ts, a :: as, us, bs, h => by
    simp only [RepHL] at h ⊢
    obtain ⟨u, us', b1, b2, e1, e2, h1, h2⟩ := h
    exact ⟨u, us', b1, b2, e1, e2, RepH.noK h1, RepHL.noK h2⟩
theorem RepHL.mono {I' : Nat → Prop} (hi : ∀ b, I b → I' b) : ∀ {cts : List TypeId} {as : List AV} {us : List Value} {bs : List Nat}, (∀ b ∈ bs, ¬ I b → ¬ I' b) → RepHL P I K w cts as us bs → RepHL P I' K w cts as us bs
  | cts, [], _, _, _, h => by cases cts <;> exact h
  | [], _ :: _, _, _, _, h => by simp [RepHL] at h
  | t :: ts, a :: as, us, bs, hn, h => by
    simp only [RepHL] at h ⊢
    obtain ⟨u, us', b1, b2, rfl, rfl, h1, h2⟩ := h
    exact ⟨u, us', b1, b2, rfl, rfl, RepH.mono hi (fun b hb => hn b (List.mem_append.2 (.inl hb))) h1, RepHL.mono hi (fun b hb => hn b (List.mem_append.2 (.inr hb))) h2⟩
theorem RepRes.mono {I' : Nat → Prop} (hi : ∀ b, I b → I' b) {t : TypeId} {a : AV} {u : Value} {bs : List Nat} (hn : ∀ b ∈ bs, ¬ I b → ¬ I' b) (h : RepRes P I w t a u bs) : RepRes P I' w t a u bs := by
  unfold RepRes at h ⊢
  split
  · rename_i hagg
    rw [if_pos hagg] at h
    obtain ⟨cs, us, e1, e2, h3⟩ := h
    exact ⟨cs, us, e1, e2, RepHL.mono hi hn h3⟩
  · rename_i hagg
    rw [if_neg hagg] at h
    exact RepH.mono hi hn h

theorem tcs_one {t : TypeId} (h : isAggB P t = false) : tcs P t = [t] := by
  unfold tcs tcsN
  unfold isAggB at h
  split
  · rename_i hu; rw [hu] at h; cases h
  · rename_i hu; rw [hu] at h; cases h
  · rfl

theorem hand_ok (G : Gam I K m hp w) {t : TypeId} {v v' : AV} {u : Value} (hr : Rep k I m hp w v u) (h : (hand P t v).run hp = some (v', hp')) :
    ∃ I' bs, Gam I' K m hp' w ∧ Ext I K m hp w I' m hp' w ∧ RepRes P I' w t v' u bs ∧ (∀ b ∈ bs, ¬ I' b ∧ ¬ K b) ∧ (∀ b, I' b → I b ∨ LiveB m hp b) ∧ (∀ b ∈ bs, LiveB m hp b ∧ ¬ LiveB m hp' b) ∧ (∀ b, LiveB m hp' b → LiveB m hp b) ∧ bs.Nodup := by
  unfold hand at h
  split at h
  case isFalse => simp [Prog.run] at h
  rename_i hc
  obtain ⟨hl, ha⟩ := hc
  obtain ⟨x, hp0, r0, h2⟩ := run_bind_some h
  clear h
  obtain ⟨e0, hcl, us1, hu1, hu2⟩ := cells_ok r0 hr
  rw [e0] at h2
  obtain ⟨cs, hp1, r1, h3⟩ := run_bind_some h2
  clear h2
  obtain ⟨I1, bs, G1, E1, d1, i1, l1, m1, n1⟩ := handL_ok G hcl r1
  have hbs := RepHL.bs d1
  have d1 := RepHL.noK d1
  rw [← ha] at h3
  unfold oneV at h3
  cases hb : aggA v with
  | true =>
    rw [hb] at h3 hu1
    simp only [if_true, Prog.run, Option.some.injEq, Prod.mk.injEq] at h3 hu1
    obtain ⟨rfl, rfl⟩ := h3
    refine ⟨I1, bs, G1, E1, ?_, hbs, i1, l1, m1, n1⟩
    unfold RepRes
    rw [if_pos (by rw [← ha, hb])]
    rw [hu1] at d1
    exact ⟨cs, us1, rfl, hu1, d1⟩
  | false =>
    rw [hb] at h3
    rw [hu2 hb, tcs_one (by rw [← ha, hb])] at d1
    simp only [Bool.false_eq_true, if_false] at h3
    split at h3
    · rename_i c
      simp only [Prog.run, Option.some.injEq, Prod.mk.injEq] at h3
      obtain ⟨rfl, rfl⟩ := h3
      refine ⟨I1, bs, G1, E1, ?_, hbs, i1, l1, m1, n1⟩
      unfold RepRes
      rw [if_neg (by rw [← ha, hb]; simp)]
      simp only [RepHL] at d1
      obtain ⟨u', us', b1, b2, e1, e2, h1, e3, e4⟩ := d1
      simp only [List.cons.injEq] at e1
      obtain ⟨rfl, _⟩ := e1
      subst e2 e4
      simpa using h1
    · simp [Prog.run] at h3

theorem load_ptr (P : Program) (G : Gam I K m hp w) {t : TypeId} {a v : AV} {u : Value} (hr : Rep k I m hp w a u) (h : (loadP P t a).run hp = some (v, hp')) : ∃ ad, u = .pointer (some ad) := by
  unfold loadP at h
  split at h
  · split at h
    · rename_i hpos
      obtain ⟨cs, hp1, r1, _⟩ := run_bind_some h
      obtain ⟨_, _, b, o, us, rfl, _⟩ := cellsFrom_ok G hpos hr r1
      exact ⟨_, rfl⟩
    · simp [Prog.run] at h
  · split at h
    · obtain ⟨cs, hp1, r1, _⟩ := run_bind_some h
      obtain ⟨_, _, b, o, us, rfl, _⟩ := cellsFrom_ok G (by omega) hr r1
      exact ⟨_, rfl⟩
    · simp [Prog.run] at h

/-- One result, as the machine reads it. -/
def readRes (tmps : Array Value) : ResultVar → Sem Value
  | .tmp t => pure (tmps.getD t undef)
  | .cell a t => do loadVar t (← asAddr (tmps.getD a undef))

theorem results_ok {fr : Nat → AV} {a : Act} : ∀ {ts : List TypeId} {rvs : List ResultVar} {rs : List AV} {I : Nat → Prop} {hp hp' : Hp}, Gam I K m hp w → (∀ t, Rep k I m hp w (fr t) (a.eval (.tmp t))) → (resultsP P fr ts rvs).run hp = some (rs, hp') →
    ∃ I' bs us, (rvs.mapM (readRes a.tmps)).run P w = .ok us w ∧ Gam I' K m hp' w ∧ Ext I K m hp w I' m hp' w ∧ RepResL P I' w ts rs us bs ∧ (∀ b ∈ bs, ¬ I' b ∧ ¬ K b) ∧ (∀ b, I' b → I b ∨ LiveB m hp b) ∧ (∀ b ∈ bs, LiveB m hp b ∧ ¬ LiveB m hp' b) ∧
      (∀ b, LiveB m hp' b → LiveB m hp b) ∧ bs.Nodup
  | [], [], rs, I, hp, hp', G, hf, h => by
    simp only [resultsP, Prog.run, Option.some.injEq, Prod.mk.injEq] at h
    obtain ⟨rfl, rfl⟩ := h
    exact ⟨I, [], [], rfl, G, .refl _ _ _ _ _, ⟨rfl, rfl⟩, by simp, fun _ h => .inl h, by simp, fun _ h => h, by simp⟩
  | [], _ :: _, _, _, _, _, _, _, h => by simp [resultsP, Prog.run] at h
  | _ :: _, [], _, _, _, _, _, _, h => by simp [resultsP, Prog.run] at h
  | t :: ts, rv :: rvs, rs, I, hp, hp', G, hf, h => by
    simp only [resultsP] at h
    obtain ⟨v, hp1, r1, h2⟩ := run_bind_some h
    clear h
    obtain ⟨vs, hp2, r2, h3⟩ := run_bind_some h2
    clear h2
    simp only [Prog.run, Option.some.injEq, Prod.mk.injEq] at h3
    obtain ⟨rfl, rfl⟩ := h3
    have one : ∃ u, (readRes a.tmps rv).run P w = .ok u w ∧ ∃ v0, Rep k I m hp w v0 u ∧ (hand P t v0).run hp = some (v, hp1) := by
      cases rv with
      | tmp s =>
        simp only [resultP] at r1
        exact ⟨_, rfl, _, hf s, r1⟩
      | cell c t' =>
        simp only [resultP] at r1
        split at r1
        · rename_i ht
          subst ht
          obtain ⟨v0, hp0, r0, h4⟩ := run_bind_some r1
          obtain ⟨e0, u', hrun, hrep⟩ := load_ok P G (hf c) r0
          obtain ⟨ad, had⟩ := load_ptr P G (hf c) r0
          rw [e0] at h4
          refine ⟨u', ?_, v0, hrep, h4⟩
          have hev : a.tmps.getD c undef = .pointer (some ad) := had
          rw [had] at hrun
          simp only [readRes, hev, asAddr]
          simpa [Instr.loadAt, Instr.sureAddr] using hrun
        · simp [Prog.run] at r1
    obtain ⟨u, hu, v0, hv0, r1'⟩ := one
    obtain ⟨I1, b1, G1, E1, d1, nb1, i1, l1, m1, n1⟩ := hand_ok G hv0 r1'
    obtain ⟨I2, b2, us, hus, G2, E2, d2, nb2, i2, l2, m2, n2⟩ := results_ok G1 (fun s => Rep.mono E1 _ _ _ (hf s)) r2
    have hn1 : ∀ b ∈ b1, ¬ I1 b → ¬ I2 b := fun b hb hn hi => by
      rcases i2 b hi with h | h
      · exact hn h
      · exact (l1 b hb).2 h
    refine ⟨I2, b1 ++ b2, u :: us, ?_, G2, E1.trans E2, ⟨u, us, b1, b2, rfl, rfl, d1.mono E2.isub hn1, d2⟩, fun b hb => ?_, fun b hb => ?_, fun b hb => ?_, fun b hb => m1 b (m2 b hb), ?_⟩
    · rw [List.mapM_cons, Sem.run_bind, hu, Result.andThen_ok, Sem.run_bind, hus]
      rfl
    · rcases List.mem_append.1 hb with hb | hb
      · exact ⟨hn1 b hb (nb1 b hb).1, (nb1 b hb).2⟩
      · exact nb2 b hb
    · rcases i2 b hb with hb | hb
      · exact i1 b hb
      · exact .inr (m1 b hb)
    · rcases List.mem_append.1 hb with hb | hb
      · exact ⟨(l1 b hb).1, fun hl => (l1 b hb).2 (m2 b hl)⟩
      · exact ⟨m1 b (l2 b hb).1, (l2 b hb).2⟩
    · rw [List.nodup_append]
      exact ⟨n1, n2, fun b hb1 c hc hbc => (l1 b hb1).2 (by rw [hbc]; exact (l2 c hc).1)⟩

theorem run_results (fn : Func) (tmps : Array Value) (us : List Value) (h : (fn.results.toList.mapM (readRes tmps)).run P w = .ok us w) : (results fn tmps).run P w = .ok (retV us) w := by
  have : results fn tmps = (do let vs ← fn.results.mapM (readRes tmps); pure (if h : vs.size = 1 then vs[0] else .tuple vs)) := by
    unfold results
    congr 1
  rw [this, Array.mapM_eq_mapM_toList, Sem.run_bind, Sem.run_map, h]
  simp only [Result.andThen_ok]
  match us with
  | [] => rfl
  | [x] => rfl
  | _ :: _ :: _ => rfl
end

theorem repA_rep {k : Nat} {I : Nat → Prop} {m : Mp} {hp : Hp} {w : World} {a : AV} {u : Value} (h : RepA I w a u) : Rep k I m hp w a u := by
  unfold RepA at h
  split at h
  · obtain ⟨us, rfl, h⟩ := h
    simp only [Rep]
    exact ⟨us, rfl, (RepL_iff _ _).2 (((RepDL_iff _ _).1 h).imp fun a u h => RepD.rep h)⟩
  · exact RepD.rep h

section
variable {P : Program} {E : Cfg}

theorem evFn_ok (hm : P.follows .mixedOrders = true) (hE : EqLaw P E.eq) {call : Orc} (hC : OrcOk P call) {n f : Nat} {fn : Func} (hfn : P.funcs[f]? = some fn) {args rs : List AV} (h : evFn P E call n fn args = some rs)
    {I : Nat → Prop} {w : World} {us : List Value} (hI : ∀ b, I b → b < w.heap.size) (ha : AllR (RepA I w) args us) : Calls P f ⟨us⟩ w (fun e w' => ∃ u, e = .returned u ∧ CallPost P I w (rtys P f) rs u w') := by
  unfold evFn at h
  split at h
  case h_2 => cases h
  rename_i c hb
  split at h
  case isFalse => cases h
  rename_i hc
  simp only [Bool.and_eq_true, beq_iff_eq] at hc
  obtain ⟨hbo, hlen⟩ := hc
  unfold bodyOk at hbo
  rw [hb] at hbo
  simp only [Bool.and_eq_true, decide_eq_true_eq] at hbo
  obtain ⟨⟨⟨hs1, hs2⟩, hs3⟩, hs4⟩ := hbo
  have hus : us.length = fn.params.size := by rw [← ha.1]; exact hlen
  have hrt : rtys P f = fn.resultTypes.toList := by simp [rtys, hfn]
  refine calls_of_wp hfn hb ?_
  -- how it begins
  have S0 : StR 0 fn.ntmps (fun b => b < w.heap.size ∧ ¬ I b) ⟨I, fun _ => none, hp0, w⟩ ⟨frame0 args, hp0⟩ { tmps := (⟨us⟩ : Array Value) ++ Array.replicate (fn.ntmps - (⟨us⟩ : Array Value).size) undef, defers := [] } w := by
    refine ⟨I, fun _ => none, ⟨fun x => trivial, fun x y p q hl => by simp [hp0, AObj.live] at hl, hI, fun b hb => hb.1, fun b hb hk => hk.2 hb⟩, .refl _ _ _ _ _, fun t => ?_, ?_, rfl⟩
    · by_cases ht : t < us.length
      · have ht' : t < args.length := by rw [ha.1]; exact ht
        have e1 : frame0 args t = args[t] := by simp [frame0, ht']
        have e2 : Act.eval { tmps := (⟨us⟩ : Array Value) ++ Array.replicate (fn.ntmps - (⟨us⟩ : Array Value).size) undef, defers := [] } (.tmp t) = us[t] := by
          simp [Act.eval, Array.getElem?_append, ht]
        rw [e2]
        show Rep 0 I (fun _ => none) hp0 w (frame0 args t) _
        rw [e1]
        exact repA_rep (ha.2 t _ _ (List.getElem?_eq_getElem ht') (List.getElem?_eq_getElem ht))
      · have ht' : ¬ t < args.length := by rw [ha.1]; exact ht
        have e1 : frame0 args t = .sc undef := by simp only [frame0, List.getD_eq_getElem?_getD]; rw [List.getElem?_eq_none (by omega)]; rfl
        have e2 : Act.eval { tmps := (⟨us⟩ : Array Value) ++ Array.replicate (fn.ntmps - (⟨us⟩ : Array Value).size) undef, defers := [] } (.tmp t) = undef := by
          simp only [Act.eval, Array.getD_eq_getD_getElem?, Array.getElem?_append]
          rw [if_neg (by simpa using ht), Array.getElem?_replicate]
          split <;> rfl
        rw [e2]
        show Rep 0 I (fun _ => none) hp0 w (frame0 args t) _
        rw [e1]
        simp only [Rep]
    · simp only [Array.size_append, List.size_toArray, Array.size_replicate]
      omega
  -- how it ends
  have fin : ∀ (st : AS) (hpf : Hp), (resultsP P st.fr fn.resultTypes.toList fn.results.toList).run st.hp = some (rs, hpf) → ∀ a' w', StR 0 fn.ntmps (fun b => b < w.heap.size ∧ ¬ I b) ⟨I, fun _ => none, hp0, w⟩ st a' w' →
      a'.defers = [] ∧ ∃ v, (results fn a'.tmps).run P w' = .ok v w' ∧ ∃ u, Ending.returned v = .returned u ∧ CallPost P I w (rtys P f) rs u w' := by
    intro st hpf hr a' w' S
    obtain ⟨I1, m1, G1, E1, hf1, _, hd1⟩ := S
    obtain ⟨I2, bs, us', hrun, G2, E2, d2, nb, i2, l2, m2, n2⟩ := results_ok G1 hf1 hr
    refine ⟨hd1, retV us', run_results fn _ us' hrun, retV us', rfl, ?_⟩
    have E12 := E1.trans E2
    exact {
      old := fun b hb => E12.keep b (by
        by_cases hi : I b
        · exact .inl hi
        · exact .inr ⟨hb, hi⟩)
      size := E12.size
      os := E12.os
      tape := E12.tape
      output := E12.output
      res := ⟨I2, us', bs, rfl, E12.isub, fun b hb => by
          by_cases hi : I b
          · exact .inl hi
          · exact .inr (Nat.le_of_not_lt fun hlt => G2.ik b hb ⟨hlt, hi⟩), G2.ilt, fun b hb => by
          refine ⟨Nat.le_of_not_lt fun hlt => ?_, (nb b hb).1⟩
          by_cases hi : I b
          · exact (nb b hb).1 (E12.isub b hi)
          · exact (nb b hb).2 ⟨hlt, hi⟩, n2, by rw [hrt]; exact d2⟩ }
  split at h
  · cases h
  · rename_i e st hne hev
    cases hr : (resultsP P st.fr fn.resultTypes.toList fn.results.toList).run st.hp with
    | none => rw [hr] at h; cases h
    | some p =>
      obtain ⟨rs', hpf⟩ := p
      rw [hr] at h
      simp only [Option.map_some, Option.some.injEq] at h
      subst h
      refine evC_ok hm hE hC n c hs1 S0 hev fun a' w' S => ?_
      have hfin := fin st hpf hr a' w' S
      cases e with
      | normal => exact hfin
      | exit i => exact (hne i rfl).elim
      | ret => exact hfin
  · cases h

/-! ### calls on the caller's heap -/
theorem lowerC_ok {I K : Nat → Prop} {m : Mp} {hp hp' : Hp} {w : World} {k : Nat} (G : Gam I K m hp w) {y : Nm} (hy : y.d = k) {v v' : AV} {u : Value} (hr : Rep (k + 1) I m hp w v u) (h : (lowerC P k y v).run hp = some (v', hp')) :
    ∃ I' m', Sim I' K m' hp' w v' k I m hp w u := by
  cases v with
  | sc x =>
    simp only [lowerC, Prog.run, Option.some.injEq, Prod.mk.injEq] at h
    obtain ⟨rfl, rfl⟩ := h
    exact ⟨I, m, G, .refl _ _ _ _ _, by simpa only [Rep] using hr⟩
  | sl f sz rows =>
    simp only [lowerC, Prog.run, Option.some.injEq, Prod.mk.injEq] at h
    obtain ⟨rfl, rfl⟩ := h
    exact ⟨I, m, G, .refl _ _ _ _ _, by simpa only [Rep] using hr⟩
  | dp c o =>
    simp only [lowerC, Prog.run, Option.some.injEq, Prod.mk.injEq] at h
    obtain ⟨rfl, rfl⟩ := h
    exact ⟨I, m, G, .refl _ _ _ _ _, by simpa only [Rep] using hr⟩
  | own x g n =>
    simp only [lowerC] at h
    split at h
    · rename_i hd
      simp only [Prog.run, Option.some.injEq, Prod.mk.injEq] at h
      obtain ⟨rfl, rfl⟩ := h
      refine ⟨I, m, G, .refl _ _ _ _ _, ?_⟩
      simp only [Rep] at hr ⊢
      exact ⟨hd, hr.2⟩
    · obtain ⟨I', m', G', E', R', _⟩ := settle_ok G hr h
      rw [hy] at R'
      exact ⟨I', m', G', E', R'⟩
  | ptr x g o =>
    simp only [lowerC] at h
    split at h
    · rename_i hd
      simp only [Prog.run, Option.some.injEq, Prod.mk.injEq] at h
      obtain ⟨rfl, rfl⟩ := h
      refine ⟨I, m, G, .refl _ _ _ _ _, ?_⟩
      simp only [Rep] at hr ⊢
      exact ⟨hd, hr.2⟩
    · simp [Prog.run] at h
  | eptr x g i o =>
    simp only [lowerC] at h
    split at h
    · rename_i hd
      simp only [Prog.run, Option.some.injEq, Prod.mk.injEq] at h
      obtain ⟨rfl, rfl⟩ := h
      refine ⟨I, m, G, .refl _ _ _ _ _, ?_⟩
      simp only [Rep] at hr ⊢
      exact ⟨hd, hr.2⟩
    · simp [Prog.run] at h
  | any | agg | tup | vec | fn => simp [lowerC, Prog.run] at h

theorem lowerL_ok {K : Nat → Prop} {w : World} {k d : Nat} : ∀ {c : Nat} {as as' : List AV} {us : List Value} {I : Nat → Prop} {m : Mp} {hp hp' : Hp}, Gam I K m hp w → AllR (Rep (k + 1) I m hp w) as us → (lowerL P k d c as).run hp = some (as', hp') →
    ∃ I' m', Gam I' K m' hp' w ∧ Ext I K m hp w I' m' hp' w ∧ AllR (Rep k I' m' hp' w) as' us
  | c, [], as', us, I, m, hp, hp', G, hr, h => by
    simp only [lowerL, Prog.run, Option.some.injEq, Prod.mk.injEq] at h
    obtain ⟨rfl, rfl⟩ := h
    have : us = [] := List.eq_nil_of_length_eq_zero (by rw [← hr.1]; rfl)
    subst this
    exact ⟨I, m, G, .refl _ _ _ _ _, .nil⟩
  | c, a :: as, as', us, I, m, hp, hp', G, hr, h => by
    obtain ⟨u, us', rfl, h1, h2⟩ := hr.cons_inv
    simp only [lowerL] at h
    obtain ⟨v1, hp1, r1, h3⟩ := run_bind_some h
    clear h
    obtain ⟨vs, hp2, r2, h4⟩ := run_bind_some h3
    clear h3
    simp only [Prog.run, Option.some.injEq, Prod.mk.injEq] at h4
    obtain ⟨rfl, rfl⟩ := h4
    obtain ⟨I1, m1, G1, E1, R1⟩ := lowerC_ok G (y := ⟨k, d, c⟩) rfl h1 r1
    obtain ⟨I2, m2, G2, E2, R2⟩ := lowerL_ok G1 (h2.imp fun a u h => Rep.mono E1 _ a u h) r2
    exact ⟨I2, m2, G2, E1.trans E2, .cons (Rep.mono E2 _ _ _ R1) R2⟩

theorem lowerV_ok {I K : Nat → Prop} {m : Mp} {hp hp' : Hp} {w : World} {k d c : Nat} (G : Gam I K m hp w) {v v' : AV} {u : Value} (hr : Rep (k + 1) I m hp w v u) (h : (lowerV P k d c v).run hp = some (v', hp')) :
    ∃ I' m', Sim I' K m' hp' w v' k I m hp w u := by
  unfold lowerV at h
  split at h
  · rename_i cs
    simp only [Rep] at hr
    obtain ⟨us, rfl, hr⟩ := hr
    obtain ⟨vs, hp1, r1, h2⟩ := run_bind_some h
    simp only [Prog.run, Option.some.injEq, Prod.mk.injEq] at h2
    obtain ⟨rfl, rfl⟩ := h2
    obtain ⟨I', m', G', E', R'⟩ := lowerL_ok G ((RepL_iff _ _).1 hr) r1
    refine ⟨I', m', G', E', ?_⟩
    simp only [Rep]
    exact ⟨us, rfl, (RepL_iff _ _).2 R'⟩
  · exact lowerC_ok G (y := ⟨k, d, c⟩) rfl hr h

theorem resultV_ok {I K : Nat → Prop} {m : Mp} {hp hp' : Hp} {w : World} {k : Nat} (G : Gam I K m hp w) {fr : Nat → AV} {a : Act} (hf : ∀ t, Rep k I m hp w (fr t) (a.eval (.tmp t))) {r : ResultVar} {v : AV} (h : (resultV P fr r).run hp = some (v, hp')) :
    hp' = hp ∧ ∃ u, (readRes a.tmps r).run P w = .ok u w ∧ Rep k I m hp w v u := by
  cases r with
  | tmp s =>
    simp only [resultV, Prog.run, Option.some.injEq, Prod.mk.injEq] at h
    obtain ⟨rfl, rfl⟩ := h
    exact ⟨rfl, _, rfl, hf s⟩
  | cell c t =>
    simp only [resultV] at h
    obtain ⟨e0, u', hrun, hrep⟩ := load_ok P G (hf c) h
    obtain ⟨ad, had⟩ := load_ptr P G (hf c) h
    refine ⟨e0, u', ?_, hrep⟩
    have hev : a.tmps.getD c undef = .pointer (some ad) := had
    rw [had] at hrun
    simp only [readRes, hev, asAddr]
    simpa [Instr.loadAt, Instr.sureAddr] using hrun

theorem lowerAll_ok {K : Nat → Prop} {w : World} {k d : Nat} {fr : Nat → AV} {a : Act} : ∀ {c : Nat} {rvs : List ResultVar} {as' : List AV} {I : Nat → Prop} {m : Mp} {hp hp' : Hp}, Gam I K m hp w → (∀ t, Rep (k + 1) I m hp w (fr t) (a.eval (.tmp t))) → (lowerAll P fr k d c rvs).run hp = some (as', hp') →
    ∃ I' m' us, (rvs.mapM (readRes a.tmps)).run P w = .ok us w ∧ Gam I' K m' hp' w ∧ Ext I K m hp w I' m' hp' w ∧ AllR (Rep k I' m' hp' w) as' us ∧ us.length = rvs.length
  | c, [], as', I, m, hp, hp', G, hf, h => by
    simp only [lowerAll, Prog.run, Option.some.injEq, Prod.mk.injEq] at h
    obtain ⟨rfl, rfl⟩ := h
    exact ⟨I, m, [], rfl, G, .refl _ _ _ _ _, .nil, rfl⟩
  | c, r :: rvs, as', I, m, hp, hp', G, hf, h => by
    simp only [lowerAll] at h
    obtain ⟨v0, hp0, r0, h1⟩ := run_bind_some h
    clear h
    obtain ⟨v1, hp1, r1, h2⟩ := run_bind_some h1
    clear h1
    obtain ⟨vs, hp2, r2, h3⟩ := run_bind_some h2
    clear h2
    simp only [Prog.run, Option.some.injEq, Prod.mk.injEq] at h3
    obtain ⟨rfl, rfl⟩ := h3
    obtain ⟨e0, u, hu, hru⟩ := resultV_ok G hf r0
    rw [e0] at r1
    obtain ⟨I1, m1, G1, E1, R1⟩ := lowerV_ok G hru r1
    obtain ⟨I2, m2, us, hus, G2, E2, R2, hl⟩ := lowerAll_ok G1 (fun s => Rep.mono E1 _ _ _ (hf s)) r2
    refine ⟨I2, m2, u :: us, ?_, G2, E1.trans E2, .cons (Rep.mono E2 _ _ _ R1) R2, by simp [hl]⟩
    rw [List.mapM_cons, Sem.run_bind, hu, Result.andThen_ok, Sem.run_bind, hus]
    rfl

theorem lowerRes_ok {I K : Nat → Prop} {m : Mp} {hp hp' : Hp} {w : World} {k d : Nat} (G : Gam I K m hp w) {fr : Nat → AV} {a : Act} (hf : ∀ t, Rep (k + 1) I m hp w (fr t) (a.eval (.tmp t))) {rvs : List ResultVar} {v : AV} (h : (lowerRes P fr k d rvs).run hp = some (v, hp')) :
    ∃ us, (rvs.mapM (readRes a.tmps)).run P w = .ok us w ∧ ∃ I' m', Sim I' K m' hp' w v k I m hp w (retV us) := by
  unfold lowerRes at h
  split at h
  · rename_i r
    obtain ⟨v0, hp0, r0, h1⟩ := run_bind_some h
    obtain ⟨e0, u, hu, hru⟩ := resultV_ok G hf r0
    rw [e0] at h1
    obtain ⟨I1, m1, S⟩ := lowerV_ok G hru h1
    refine ⟨[u], ?_, I1, m1, S⟩
    rw [List.mapM_cons, Sem.run_bind, hu]
    rfl
  · rename_i hne
    obtain ⟨vs, hp1, r1, h2⟩ := run_bind_some h
    simp only [Prog.run, Option.some.injEq, Prod.mk.injEq] at h2
    obtain ⟨rfl, rfl⟩ := h2
    obtain ⟨I1, m1, us, hus, G1, E1, R1, hl⟩ := lowerAll_ok G hf r1
    refine ⟨us, hus, I1, m1, G1, E1, ?_⟩
    have hret : retV us = .tuple ⟨us⟩ := by
      match us, hl with
      | [], _ => rfl
      | [x], hl =>
        exfalso
        match rvs, hl with
        | [r], _ => exact hne r rfl
      | _ :: _ :: _, _ => rfl
    rw [hret]
    simp only [Rep]
    exact ⟨us, rfl, (RepL_iff _ _).2 R1⟩

theorem frame_ok {I : Nat → Prop} {m : Mp} {hp : Hp} {w : World} {k n : Nat} {args : List AV} {us : List Value} (ha : AllR (Rep k I m hp w) args us) (t : Nat) :
    Rep k I m hp w (frame0 args t) (Act.eval { tmps := (⟨us⟩ : Array Value) ++ Array.replicate n undef, defers := [] } (.tmp t)) := by
  by_cases ht : t < us.length
  · have ht' : t < args.length := by rw [ha.1]; exact ht
    have e1 : frame0 args t = args[t] := by simp [frame0, ht']
    have e2 : Act.eval { tmps := (⟨us⟩ : Array Value) ++ Array.replicate n undef, defers := [] } (.tmp t) = us[t] := by
      simp [Act.eval, Array.getElem?_append, ht]
    rw [e1, e2]
    exact ha.2 t _ _ (List.getElem?_eq_getElem ht') (List.getElem?_eq_getElem ht)
  · have ht' : ¬ t < args.length := by rw [ha.1]; exact ht
    have e1 : frame0 args t = .sc undef := by simp only [frame0, List.getD_eq_getElem?_getD]; rw [List.getElem?_eq_none (by omega)]; rfl
    have e2 : Act.eval { tmps := (⟨us⟩ : Array Value) ++ Array.replicate n undef, defers := [] } (.tmp t) = undef := by
      simp only [Act.eval, Array.getD_eq_getD_getElem?, Array.getElem?_append]
      rw [if_neg (by simpa using ht), Array.getElem?_replicate]
      split <;> rfl
    rw [e1, e2]
    simp only [Rep]

theorem evFnH_ok (hm : P.follows .mixedOrders = true) (hE : EqLaw P E.eq) {call : Orc} (hC : OrcOk P call) {n f k d : Nat} {fn : Func} (hfn : P.funcs[f]? = some fn) {args : List AV} {v : AV} {hp hp' : Hp} (h : evFnH P E call n fn k d args hp = some (v, hp'))
    {I K : Nat → Prop} {m : Mp} {w : World} {us : List Value} (G : Gam I K m hp w) (ha : AllR (Rep k I m hp w) args us) : Calls P f ⟨us⟩ w (fun e w' => ∃ u, e = .returned u ∧ ∃ I' m', Sim I' K m' hp' w' v k I m hp w u) := by
  unfold evFnH at h
  split at h
  case h_2 => cases h
  rename_i c hb
  split at h
  case isFalse => cases h
  rename_i hc
  simp only [Bool.and_eq_true, beq_iff_eq] at hc
  obtain ⟨hbo, hlen⟩ := hc
  unfold bodyOk at hbo
  rw [hb] at hbo
  simp only [Bool.and_eq_true, decide_eq_true_eq] at hbo
  obtain ⟨⟨⟨hs1, hs2⟩, hs3⟩, hs4⟩ := hbo
  have hus : us.length = fn.params.size := by rw [← ha.1]; exact hlen
  refine calls_of_wp hfn hb ?_
  have S0 : StR (k + 1) fn.ntmps K ⟨I, m, hp, w⟩ ⟨frame0 args, hp⟩ { tmps := (⟨us⟩ : Array Value) ++ Array.replicate (fn.ntmps - (⟨us⟩ : Array Value).size) undef, defers := [] } w := by
    refine ⟨I, m, G, .refl _ _ _ _ _, fun t => frame_ok (ha.imp fun a u h => Rep.depth (Nat.le_succ k) a u h) t, ?_, rfl⟩
    simp only [Array.size_append, List.size_toArray, Array.size_replicate]
    omega
  split at h
  · cases h
  · rename_i e st hne hev
    refine evC_ok hm hE hC n c hs1 S0 hev fun a' w' S => ?_
    obtain ⟨I1, m1, G1, E1, hf1, _, hd1⟩ := S
    obtain ⟨us', hrun, I2, m2, G2, E2, R2⟩ := lowerRes_ok G1 hf1 h
    have hfin : a'.defers = [] ∧ ∃ v', (results fn a'.tmps).run P w' = .ok v' w' ∧ ∃ u, Ending.returned v' = .returned u ∧ ∃ I' m', Sim I' K m' hp' w' v k I m hp w u :=
      ⟨hd1, retV us', run_results fn _ us' hrun, retV us', rfl, I2, m2, G2, E1.trans E2, R2⟩
    cases e with
    | normal => exact hfin
    | exit i => exact (hne i rfl).elim
    | ret => exact hfin
  · cases h

theorem evCall_ok (hm : P.follows .mixedOrders = true) (hE : EqLaw P E.eq) {X : Orc} (hX : OrcOk P X) : ∀ n, OrcOk P (evCall P E X n)
  | 0 => hX
  | n + 1 => by
    refine ⟨fun f args rs h hok I w us hI ha => ?_, fun k d f args hp v hp' h hok I K m w us G ha => ?_⟩
    · simp only [evCall] at h
      split at h
      · rename_i rs' hx
        cases h
        exact hX.1 f args rs hx hok I w us hI ha
      · split at h
        · rename_i fn hfn
          exact evFn_ok hm hE (evCall_ok hm hE hX n) hfn h hI ha
        · cases h
    · simp only [evCall] at h
      split at h
      · rename_i r hx
        cases h
        exact hX.2 k d f args hp v hp' hx hok I K m w us G ha
      · split at h
        · rename_i fn hfn
          exact evFnH_ok hm hE (evCall_ok hm hE hX n) hfn h G ha
        · cases h
end
end Go.Ab
