/- A region in any order. No program of Go is named here. -/
import Derived.Test.YtmfhdhiaokejdaaAb16
namespace Go.Ab
open Go
set_option linter.unusedSimpArgs false
set_option linter.unusedVariables false

section
variable {P : Program} {K : Nat → Prop} {k N : Nat} {B : Base} {E : Cfg} {call : Orc} {all : Array Oper}

theorem evOp_congr {fr fr' : Nat → AV} {o : Oper} (h : ∀ x ∈ o.op.operands, opA fr x = opA fr' x) : evOp P E k call fr o = evOp P E k call fr' o := by
  obtain ⟨dst, op, type, pos, after, guard⟩ := o
  have pairs : ∀ ps : Array (Nat × Operand), (∀ x ∈ ps.map (·.2), opA fr x = opA fr' x) →
      (ps.toList.map fun p => opA fr p.2) = (ps.toList.map fun p => opA fr' p.2) ∧ (ps.toList.map fun p => (p.1, opA fr p.2)) = (ps.toList.map fun p => (p.1, opA fr' p.2)) := fun ps hp => by
    have : ∀ p ∈ ps.toList, opA fr p.2 = opA fr' p.2 := fun p hm => hp p.2 (Array.mem_map.2 ⟨p, by simpa using hm, rfl⟩)
    exact ⟨List.map_congr_left this, List.map_congr_left fun p hm => by rw [this p hm]⟩
  cases op <;> simp only [Op.operands] at h <;> simp only [evOp]
  case build t ps => obtain ⟨e1, e2⟩ := pairs ps fun x hx => h x (by simpa using hx); rw [e1, e2]
  case buildSlice t n ps => obtain ⟨e1, e2⟩ := pairs ps fun x hx => h x (by simpa using hx); rw [e1, e2]
  case slice t x lo hi mx => cases lo <;> cases hi <;> cases mx <;> simp_all
  case call c =>
    obtain ⟨callee, args, argTypes⟩ := c
    have ha : ∀ x ∈ args.toList, opA fr x = opA fr' x := fun x hx => h x (by simp [Call.operands] at hx ⊢; exact .inr hx)
    simp only
    split
    · rename_i x t e1 e2
      rw [ha x (by rw [e1]; simp)]
    · rename_i s x t t' e1 e2
      rw [ha x (by rw [e1]; simp), ha s (by rw [e1]; simp)]
    · rw [List.map_congr_left ha]
    · rfl
  all_goals (first | rfl | (simp_all; done))

theorem setd_other {fr : Nat → AV} {d : Option Nat} {v : AV} {t : Nat} (h : d ≠ some t) : setd fr d v t = fr t := by
  cases d with
  | none => rfl
  | some x => simp only [setd]; rw [if_neg (fun e => h (by rw [e]))]
theorem setd_comm {fr : Nat → AV} {d d' : Option Nat} {v v' : AV} (h : ∀ x, d = some x → d' ≠ some x) : setd (setd fr d v) d' v' = setd (setd fr d' v') d v := by
  funext t
  cases d with
  | none => rfl
  | some x =>
    cases d' with
    | none => rfl
    | some y =>
      have hxy : y ≠ x := fun e => h x rfl (by rw [e])
      simp only [setd]
      by_cases e1 : t = x
      · have : t ≠ y := fun e => hxy (by rw [← e, e1])
        simp [e1, hxy.symm]
      · simp [e1]

theorem evOp_setd {fr : Nat → AV} {d : Option Nat} {v : AV} {o : Oper} (h : ∀ x, d = some x → x ∉ slotsOf all o) : evOp P E k call (setd fr d v) o = evOp P E k call fr o :=
  evOp_congr fun x hx => by
    cases x with
    | tmp t =>
      refine setd_other fun e => h t e ?_
      exact List.mem_append_left _ (List.mem_filterMap.2 ⟨.tmp t, by simpa using hx, rfl⟩)
    | const c => cases c <;> rfl
    | func f => rfl
    | global g => rfl
theorem guard_setd {fr : Nat → AV} {d : Option Nat} {v : AV} {o : Oper} (h : ∀ x, d = some x → x ∉ slotsOf all o) : guardA all (setd fr d v) o = guardA all fr o := by
  unfold guardA
  cases hg : o.guard with
  | none => rfl
  | some jb =>
    obtain ⟨j, b⟩ := jb
    simp only
    cases hd : (all[j]?).bind (·.dst) with
    | none => rfl
    | some t =>
      simp only
      rw [setd_other fun e => h t e (by simp [slotsOf, hg, hd])]

theorem stepF_iff {o : Oper} {st st' : AS} {f : Foot} : stepF P E k call all o st = some (st', f) ↔ ∃ b v hp R W, guardA all st.fr o = some b ∧ (if b then evOp P E k call st.fr o else .ret (.sc undef)).runF st.hp [] [] = some (v, hp, R, W) ∧
    st' = ⟨setd st.fr o.dst v, hp⟩ ∧ f = ⟨R, W⟩ := by
  unfold stepF
  constructor
  · intro h
    split at h
    · rename_i hg
      split at h
      · rename_i v hp R W hr
        simp only [Option.some.injEq, Prod.mk.injEq] at h
        exact ⟨true, v, hp, R, W, hg, hr, h.1.symm, h.2.symm⟩
      · cases h
    · rename_i hg
      simp only [Option.some.injEq, Prod.mk.injEq] at h
      exact ⟨false, _, st.hp, [], [], hg, rfl, h.1.symm, h.2.symm⟩
    · cases h
  · rintro ⟨b, v, hp, R, W, hg, hr, rfl, rfl⟩
    rw [hg]
    cases b with
    | true => simp only [if_true] at hr; simp only [hr]
    | false =>
      simp only [Bool.false_eq_true, if_false, Prog.runF, Option.some.injEq, Prod.mk.injEq] at hr
      obtain ⟨rfl, rfl, rfl, rfl⟩ := hr
      rfl

theorem apartS_spec {o p : Oper} (h : apartS all o p = true) : (∀ d, o.dst = some d → d ∉ slotsOf all p) ∧ (∀ d, o.dst = some d → p.dst ≠ some d) ∧ (∀ d, p.dst = some d → d ∉ slotsOf all o) := by
  refine ⟨fun d hd => ?_, fun d hd => ?_, fun d hd => ?_⟩ <;> simp [apartS, hd] at h
  · exact h.1.1
  · exact h.1.2
  · exact h.2

theorem stepF_swap {o p : Oper} {st st1 st2 : AS} {f1 f2 : Foot} (h1 : stepF P E k call all o st = some (st1, f1)) (h2 : stepF P E k call all p st1 = some (st2, f2)) (hs : apartS all o p = true) (hf : apartF f1 f2 = true) :
    ∃ st1', stepF P E k call all p st = some (st1', f2) ∧ stepF P E k call all o st1' = some (st2, f1) := by
  obtain ⟨s1, s2, s3⟩ := apartS_spec hs
  obtain ⟨b1, v1, hp1, R1, W1, g1, r1, rfl, rfl⟩ := stepF_iff.1 h1
  obtain ⟨b2, v2, hp2, R2, W2, g2, r2, rfl, rfl⟩ := stepF_iff.1 h2
  simp only at g2 r2
  rw [guard_setd s1] at g2
  rw [evOp_setd s1] at r2
  obtain ⟨hq, q1, q2⟩ := runF_swap r1 r2 hf
  refine ⟨⟨setd st.fr p.dst v2, hq⟩, stepF_iff.2 ⟨b2, v2, hq, R2, W2, g2, q1, rfl, rfl⟩, stepF_iff.2 ⟨b1, v1, hp2, R1, W1, ?_, ?_, ?_, rfl⟩⟩
  · simp only; rw [guard_setd s3]; exact g1
  · simp only; rw [evOp_setd s3]; exact q2
  · simp only; rw [setd_comm s2]

/-! ### orders -/
/-- Waiting, directly or not. -/
inductive Waits (all : Array Oper) : Nat → Nat → Prop where
  | one {j : Nat} {o : Oper} {e : Edge} : all[j]? = some o → e ∈ o.after → Region.binds .any e = true → Waits all j e.on
  | more {j x : Nat} {o : Oper} {e : Edge} : all[j]? = some o → e ∈ o.after → Region.binds .any e = true → Waits all e.on x → Waits all j x

def Down (all : Array Oper) (listed : Array Bool) : Prop := ∀ j o e, listed.getD j false = true → all[j]? = some o → e ∈ o.after → Region.binds .any e = true → listed.getD e.on false = true
theorem Down.waits {listed : Array Bool} (h : Down all listed) {j x : Nat} (hw : Waits all j x) : listed.getD j false = true → listed.getD x false = true := by
  induction hw with
  | one ho he hb => exact fun hj => h _ _ _ hj ho he hb
  | more ho he hb _ ih => exact fun hj => ih (h _ _ _ hj ho he hb)
theorem ready_waits {listed : Array Bool} (h : Down all listed) {j x : Nat} (hr : j ∈ Region.ready .any all listed) (hw : Waits all j x) : listed.getD x false = true := by
  obtain ⟨_, o, ho, hall⟩ := mem_ready.1 hr
  cases hw with
  | one ho' he hb => rw [ho] at ho'; cases ho'; exact hall _ he hb
  | more ho' he hb hw => rw [ho] at ho'; cases ho'; exact h.waits hw (hall _ he hb)
theorem Down.set {listed : Array Bool} (h : Down all listed) {j : Nat} (hr : j ∈ Region.ready .any all listed) : Down all (listed.setIfInBounds j true) := by
  intro x o e hx ho he hb
  by_cases hjx : j = x
  · subst hjx
    obtain ⟨_, o', ho', hall⟩ := mem_ready.1 hr
    rw [ho] at ho'; cases ho'
    exact getD_set_true (hall e he hb)
  · rw [getD_set_ne false hjx] at hx
    exact getD_set_true (h x o e hx ho he hb)

/-- Whatever is ready may come next, and in the end there is this. -/
def anyA (P : Program) (E : Cfg) (k : Nat) (call : Orc) (all : Array Oper) (fs : List Foot) (stf : AS) : Nat → Array Bool → AS → Prop
  | 0, listed, st => Region.ready .any all listed = [] ∧ st = stf
  | n + 1, listed, st => (Region.ready .any all listed = [] → st = stf) ∧ ∀ i ∈ Region.ready .any all listed, ∃ o st', all[i]? = some o ∧ stepF P E k call all o st = some (st', fs.getD i ⟨[], []⟩) ∧
      anyA P E k call all fs stf n (listed.setIfInBounds i true) st'

theorem anyA_first {fs : List Foot} {stf : AS} {i : Nat} {oi : Oper} (hi : all[i]? = some oi) : ∀ (n : Nat) (listed : Array Bool) (st st1 : AS), Down all listed →
    (∀ j oj, all[j]? = some oj → j ≠ i → listed.getD j true = false → ¬ Waits all j i → apartS all oi oj = true ∧ apartF (fs.getD i ⟨[], []⟩) (fs.getD j ⟨[], []⟩) = true) →
    i ∈ Region.ready .any all listed → stepF P E k call all oi st = some (st1, fs.getD i ⟨[], []⟩) → anyA P E k call all fs stf n (listed.setIfInBounds i true) st1 → anyA P E k call all fs stf (n + 1) listed st := by
  intro n
  induction n with
  | zero =>
    intro listed st st1 _ _ hr hs H
    refine ⟨fun h => (by rw [h] at hr; cases hr), fun j hj => ?_⟩
    by_cases hji : j = i
    · subst hji; exact ⟨oi, st1, hi, hs, H⟩
    · have := ready_mono hj hji
      rw [H.1] at this
      cases this
  | succ n ih =>
    intro listed st st1 hD hfree hr hs H
    refine ⟨fun h => (by rw [h] at hr; cases hr), fun j hj => ?_⟩
    by_cases hji : j = i
    · subst hji; exact ⟨oi, st1, hi, hs, H⟩
    · obtain ⟨oj, st2, hoj, hs2, H2⟩ := H.2 j (ready_mono hj hji)
      have hjun := (mem_ready.1 hj).1
      have hiun := (mem_ready.1 hr).1
      have hnw : ¬ Waits all j i := fun hw => by
        have h1 := ready_waits hD hj hw
        rcases Nat.lt_or_ge i listed.size with h' | h'
        · simp [h'] at hiun h1; rw [hiun] at h1; cases h1
        · simp [Array.getElem?_eq_none h'] at h1
      obtain ⟨a1, a2⟩ := hfree j oj hoj hji hjun hnw
      obtain ⟨st1', q1, q2⟩ := stepF_swap hs hs2 a1 a2
      refine ⟨oj, st1', hoj, q1, ih (listed.setIfInBounds j true) st1' st2 (hD.set hj) (fun x ox hx hxi hun hno => ?_) (ready_mono hr (Ne.symm hji)) q2 ?_⟩
      · refine hfree x ox hx hxi ?_ hno
        by_cases hjx : j = x
        · subst hjx; exact hjun
        · rw [getD_set_ne true hjx] at hun; exact hun
      · rw [Array.setIfInBounds_comm _ _ hji]
        exact H2

theorem runDraw_foots : ∀ (os : List Oper) {st stf : AS} {acc fs : List Foot}, runDraw P E k call all os st acc = some (stf, fs) → ∀ j, j < acc.length → fs.getD j ⟨[], []⟩ = acc.reverse.getD j ⟨[], []⟩
  | [], st, stf, acc, fs, h, j, hj => by
    simp only [runDraw, Option.some.injEq, Prod.mk.injEq] at h
    rw [h.2]
  | o :: os, st, stf, acc, fs, h, j, hj => by
    simp only [runDraw] at h
    split at h
    · rename_i st' f hs
      rw [runDraw_foots os h j (by simp; omega)]
      simp only [List.getD_eq_getElem?_getD, List.reverse_cons]
      rw [List.getElem?_append_left (by simpa using hj)]
    · cases h

theorem anyA_lex {fs : List Foot} {stf : AS} (hback : ∀ j o e, all[j]? = some o → e ∈ o.after → Region.binds .any e = true → e.on < j)
    (hfree : ∀ i j oi oj, i < j → all[i]? = some oi → all[j]? = some oj → ¬ Waits all j i → apartS all oi oj = true ∧ apartF (fs.getD i ⟨[], []⟩) (fs.getD j ⟨[], []⟩) = true) :
    ∀ (os : List Oper) (n : Nat) (listed : Array Bool) (st : AS) (acc : List Foot), (∀ j, os[j]? = all[n + j]?) → acc.length = n → runDraw P E k call all os st acc = some (stf, fs) → listed.size = all.size → (∀ j, j < all.size → listed.getD j true = decide (j < n)) →
    anyA P E k call all fs stf os.length listed st
  | [], n, listed, st, acc, hl, hn, h, hsz, hls => by
    simp only [runDraw, Option.some.injEq, Prod.mk.injEq] at h
    refine ⟨?_, h.1⟩
    refine List.eq_nil_iff_forall_not_mem.2 fun j hj => ?_
    obtain ⟨h0, o, ho, _⟩ := mem_ready.1 hj
    have hlt : j < all.size := (Array.getElem?_eq_some_iff.1 ho).1
    rw [hls j hlt] at h0
    have hnj : ¬ j < n := by simpa using h0
    have := hl (j - n)
    rw [show n + (j - n) = j by omega, ho] at this
    cases this
  | o :: os, n, listed, st, acc, hl, hn, h, hsz, hls => by
    have h0 : all[n]? = some o := by simpa using (hl 0).symm
    have hlt : n < all.size := (Array.getElem?_eq_some_iff.1 h0).1
    have hl' : ∀ j, os[j]? = all[n + 1 + j]? := fun j => by have := hl (j + 1); simpa [Nat.add_assoc, Nat.add_comm 1 j] using this
    simp only [runDraw] at h
    split at h
    case h_2 => cases h
    rename_i st' f hs
    have hfn : fs.getD n ⟨[], []⟩ = f := by
      rw [runDraw_foots os h n (by simp; omega)]
      simp only [List.getD_eq_getElem?_getD, List.reverse_cons]
      rw [List.getElem?_append_right (by simp; omega)]
      simp [hn]
    have hread : ∀ j, j < n → listed.getD j false = true := fun j hj => by
      have := hls j (by omega)
      rw [decide_eq_true hj] at this
      have hj2 : j < listed.size := by omega
      simpa [hj2] using this
    refine anyA_first h0 os.length listed st st' (fun j o' e hj ho he hb => ?_) (fun j oj hj hne hun hnw => ?_) ?_ (by rw [hfn]; exact hs) ?_
    · have hlt' : j < all.size := (Array.getElem?_eq_some_iff.1 ho).1
      have hj2 : j < listed.size := by omega
      have := hls j hlt'
      have hjn : j < n := by
        have e1 : listed.getD j true = listed.getD j false := by simp [hj2]
        rw [e1, hj] at this
        exact of_decide_eq_true this.symm
      exact hread _ (Nat.lt_trans (hback j o' e ho he hb) hjn)
    · have hlt' : j < all.size := (Array.getElem?_eq_some_iff.1 hj).1
      rw [hls j hlt'] at hun
      have hnj : ¬ j < n := by simpa using hun
      exact hfree n j o oj (by omega) h0 hj hnw
    · refine mem_ready.2 ⟨by rw [hls n hlt]; simp, o, h0, fun e he hb => hread _ (hback n o e h0 he hb)⟩
    · refine anyA_lex hback hfree os (n + 1) _ st' (f :: acc) hl' (by simp [hn]) h (by simpa using hsz) (fun j hj => ?_)
      by_cases hjn : n = j
      · subst hjn
        have hj2 : n < listed.size := by omega
        simp [hj2]
      · rw [getD_set_ne true hjn, hls j hj]
        exact decide_eq_decide.2 ⟨fun h => by omega, fun h => by omega⟩

theorem waits_ok : ∀ (os : List Oper) (acc : List (List Nat)) (n : Nat), acc.length = n → (∀ j, os[j]? = all[n + j]?) → (∀ j i, i ∈ acc.reverse.getD j [] → Waits all j i) → ∀ j i, i ∈ (waits os acc).getD j [] → Waits all j i
  | [], acc, n, hn, hl, ha, j, i, h => ha j i h
  | o :: os, acc, n, hn, hl, ha, j, i, h => by
    have h0 : all[n]? = some o := by simpa using (hl 0).symm
    have hl' : ∀ j, os[j]? = all[n + 1 + j]? := fun j => by have := hl (j + 1); simpa [Nat.add_assoc, Nat.add_comm 1 j] using this
    refine waits_ok os _ (n + 1) (by simp [hn]) hl' (fun j i hi => ?_) j i h
    simp only [List.reverse_cons, List.getD_eq_getElem?_getD] at hi
    rw [List.getElem?_append] at hi
    split at hi
    · exact ha j i (by simpa [List.getD_eq_getElem?_getD] using hi)
    · rename_i hj
      rw [List.getElem?_singleton] at hi
      split at hi
      · rename_i hj0
        have hjn : j = n := by simp at hj hj0; omega
        subst hjn
        simp only [Option.getD_some, List.mem_flatMap] at hi
        obtain ⟨e, he, hi⟩ := hi
        split at hi
        · rename_i hb
          rcases List.mem_cons.1 hi with rfl | hi
          · exact .one h0 (by simpa using he) hb
          · exact .more h0 (by simpa using he) hb (ha _ _ (by simpa [List.getD_eq_getElem?_getD] using hi))
        · cases hi
      · cases hi

theorem any_ok (hE : EqLaw P E.eq) (hC : OrcOk P call) {fs : List Foot} {stf : AS} {Q : Exit → Act → World → Prop} (hd : ∀ o ∈ all.toList, ∀ x, o.dst = some x → x < N) (hQ : ∀ a' w', StR k N K B stf a' w' → Q .normal a' w') :
    ∀ (n : Nat) (listed : Array Bool) {st : AS} {a : Act} {w : World}, anyA P E k call all fs stf n listed st → StR k N K B st a w → wpAny P .any all Q n listed a w
  | 0, listed, st, a, w, h, S => by
    obtain ⟨h1, rfl⟩ := h
    exact ⟨h1, hQ a w S⟩
  | n + 1, listed, st, a, w, h, S => by
    refine ⟨fun hr => hQ a w (h.1 hr ▸ S), fun i hi => ?_⟩
    obtain ⟨o, st', ho, hs, H⟩ := h.2 i hi
    have hdo := hd o (by have := Array.mem_of_getElem? ho; simpa using this)
    obtain ⟨b, v, hp, R, W, g, r, rfl, hf⟩ := stepF_iff.1 hs
    unfold wpOp
    simp only [ho]
    rw [S.guard g]
    cases b with
    | true =>
      simp only [if_true] at r ⊢
      exact .inl ((S.op hE hC hdo (runF_run _ r)).wp fun u w' S' => any_ok hE hC hd hQ n _ H S')
    | false =>
      simp only [Bool.false_eq_true, if_false, Prog.runF, Option.some.injEq, Prod.mk.injEq] at r ⊢
      obtain ⟨rfl, rfl, _⟩ := r
      exact any_ok hE hC hd hQ n _ H (S.skip hdo)

theorem StR.drawn {st : AS} {a : Act} {w : World} (S : StR k N K B st a w) (n : Nat) : StR k N K B st a { w with drawn := n } := by
  obtain ⟨I, m, G, E0, hf, hs, hdf⟩ := S
  obtain ⟨G2, E2⟩ := G.world (w' := { w with drawn := n }) (fun _ _ => rfl) ⟨fun _ _ => rfl, Nat.le_refl _, rfl, rfl, rfl⟩ (fun _ h => h) (fun _ h => .inl h) G.ilt
  exact ⟨I, m, G2, E0.trans E2, fun t => Rep.mono E2 _ _ _ (hf t), hs, hdf⟩

theorem region_any (hm : P.follows .mixedOrders = true) (hE : EqLaw P E.eq) (hC : OrcOk P call) {Q : Exit → Act → World → Prop} {st st' : AS} {a : Act} {w : World} {id : Nat} {fs : List Foot} (hd : ∀ o ∈ all.toList, ∀ x, o.dst = some x → x < N) (S : StR k N K B st a w)
    (h : runDraw P E k call all all.toList st [] = some (st', fs)) (h1 : drawS all = true) (h2 : drawF all fs = true) (hQ : ∀ a' w', StR k N K B st' a' w' → Q .normal a' w') :
    (Code.region id all true).wp P Q a w := by
  refine wp_region_any hm ?_
  simp only [drawS, Bool.and_eq_true, List.all_eq_true, List.mem_range, Bool.or_eq_true] at h1
  obtain ⟨h1a, h1b⟩ := h1
  simp only [drawF, List.all_eq_true, List.mem_range, Bool.or_eq_true] at h2
  have hget : ∀ j o, all[j]? = some o → all.getD j default = o := fun j o h => by simp [h]
  have hlex := anyA_lex (P := P) (E := E) (k := k) (call := call) (all := all) (fs := fs) (stf := st') (fun j o e hj he hb => by
      have hlt := (Array.getElem?_eq_some_iff.1 hj).1
      have := h1a j hlt e (by rw [hget j o hj]; simpa using he)
      rcases this with h | h
      · rw [hb] at h; cases h
      · exact of_decide_eq_true h)
    (fun i j oi oj hij hi hj hnw => by
      have hlt := (Array.getElem?_eq_some_iff.1 hj).1
      have nw : ((waits all.toList []).getD j []).contains i ≠ true := fun hc => hnw (waits_ok all.toList [] 0 rfl (by simp) (by simp) j i (by simpa using hc))
      have a1 := (h1b j hlt i hij).resolve_left nw
      have a2 := (h2 j hlt i hij).resolve_left nw
      rw [hget i oi hi, hget j oj hj] at a1
      exact ⟨a1, a2⟩)
    all.toList 0 (Array.replicate all.size false) st [] (by simp) rfl h (by simp) (fun j hj => by simp [hj])
  rw [Array.length_toList] at hlex
  exact any_ok hE hC hd hQ all.size _ hlex (S.drawn _)
end
end Go.Ab
