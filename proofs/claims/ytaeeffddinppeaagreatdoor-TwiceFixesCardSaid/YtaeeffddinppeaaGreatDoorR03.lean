/- A part of the proof: Ab17, Ab18, Ab19, Ab20, Ab21, Ab22, Ab23. -/
import Derived.Test.YtaeeffddinppeaaGreatDoorR02
import Derived.IntWalk
set_option linter.unusedSimpArgs false
set_option linter.unusedVariables false
namespace Go.Ab
open Go
section
variable {P : Program} {K : Nat → Prop} {k N : Nat} {B : Base} {E : Cfg} {call : Orc} {all : Array Oper}
theorem evOp_congr {fr fr' : Nat → AV} {o : Oper} (h : ∀ x ∈ o.op.operands, opA fr x = opA fr' x) : evOp P E k call fr o = evOp P E k call fr' o := by
  obtain ⟨dst, op, type, pos, after, guard⟩ := o
  have pairs : ∀ ps : Array (Nat × Operand), (∀ x ∈ ps.map (·.2), opA fr x = opA fr' x) →
      (ps.toList.map fun p => opA fr p.2) = (ps.toList.map fun p => opA fr' p.2) ∧ (ps.toList.map fun p => (p.1, opA fr p.2)) = (ps.toList.map fun p => (p.1, opA fr' p.2)) := fun ps hp => by
    have : ∀ p ∈ ps.toList, opA fr p.2 = opA fr' p.2 := fun p hm => hp p.2 (Array.mem_map.2 ⟨p, by simpa using hm, rfl⟩)
    exact ⟨List.map_congr_left this, List.map_congr_left fun p hm => by rw [this p hm]⟩
  cases op <;> simp only [Op.operands] at h <;> simp only [evOp]
  case build t ps => obtain ⟨e1, e2⟩ := pairs ps fun x hx => h x (by simpa using hx); rw [e1, e2]
  case buildSlice t n ps => obtain ⟨e1, e2⟩ := pairs ps fun x hx => h x (by simpa using hx); rw [e1, e2]
  case makeFunc fn first caps =>
    have hc : ∀ x ∈ caps.toList, opA fr x = opA fr' x := fun x hx => h x (by simp at hx ⊢; exact .inr hx)
    cases fn <;> simp only
    rw [List.map_congr_left hc]
  case slice t x lo hi mx => cases lo <;> cases hi <;> cases mx <;> simp_all
  case call c =>
    obtain ⟨callee, args, argTypes⟩ := c
    have ha : ∀ x ∈ args.toList, opA fr x = opA fr' x := fun x hx => h x (by simp [Call.operands] at hx ⊢; exact .inr hx)
    simp only
    split
    · rename_i x t e1 e2
      rw [ha x (by rw [e1]; simp)]
    · rename_i s x t t' e1 e2
      rw [ha x (by rw [e1]; simp), ha s (by rw [e1]; simp)]
    · rename_i s x t t' e1 e2
      rw [ha x (by rw [e1]; simp), ha s (by rw [e1]; simp)]
    · rename_i _ x y e1
      rw [ha x (by rw [e1]; simp), ha y (by rw [e1]; simp)]
    · rename_i _ x y e1
      rw [ha x (by rw [e1]; simp), ha y (by rw [e1]; simp)]
    · rename_i x
      rw [List.map_congr_left ha, h x (by simp [Call.operands])]
    · rfl
  all_goals (first | rfl | (simp_all; done))
theorem setd_other {fr : Nat → AV} {d : Option Nat} {v : AV} {t : Nat} (h : d ≠ some t) : setd fr d v t = fr t := by
  cases d with
  | none => rfl
  | some x => simp only [setd]; rw [if_neg (fun e => h (by rw [e]))]
theorem setd_comm {fr : Nat → AV} {d d' : Option Nat} {v v' : AV} (h : ∀ x, d = some x → d' ≠ some x) : setd (setd fr d v) d' v' = setd (setd fr d' v') d v := by
  funext t
  cases d with
  | none => rfl
  | some x =>
    cases d' with
    | none => rfl
    | some y =>
      have hxy : y ≠ x := fun e => h x rfl (by rw [e])
      simp only [setd]
      by_cases e1 : t = x
      · have : t ≠ y := fun e => hxy (by rw [← e, e1])
        simp [e1, hxy.symm]
      · simp [e1]
theorem evOp_setd {fr : Nat → AV} {d : Option Nat} {v : AV} {o : Oper} (h : ∀ x, d = some x → x ∉ slotsOf all o) : evOp P E k call (setd fr d v) o = evOp P E k call fr o :=
  evOp_congr fun x hx => by
    cases x with
    | tmp t =>
      refine setd_other fun e => h t e ?_
      exact List.mem_append_left _ (List.mem_filterMap.2 ⟨.tmp t, by simpa using hx, rfl⟩)
    | const c => cases c <;> rfl
    | func f => rfl
    | global g => rfl
theorem guard_setd {fr : Nat → AV} {d : Option Nat} {v : AV} {o : Oper} (h : ∀ x, d = some x → x ∉ slotsOf all o) : guardA all (setd fr d v) o = guardA all fr o := by
  unfold guardA
  cases hg : o.guard with
  | none => rfl
  | some jb =>
    obtain ⟨j, b⟩ := jb
    simp only
    cases hd : (all[j]?).bind (·.dst) with
    | none => rfl
    | some t =>
      simp only
      rw [setd_other fun e => h t e (by simp [slotsOf, hg, hd])]
theorem stepF_iff {o : Oper} {st st' : AS} {f : Foot} : stepF P E k call all o st = some (st', f) ↔ ∃ b v hp R W, guardA all st.fr o = some b ∧ (if b then evOp P E k call st.fr o else .ret (.sc undef)).runF st.hp [] [] = some (v, hp, R, W) ∧
    st' = ⟨setd st.fr o.dst v, hp⟩ ∧ f = ⟨R, W⟩ := by
  unfold stepF
  constructor
  · intro h
    split at h
    · rename_i hg
      split at h
      · rename_i v hp R W hr
        simp only [Option.some.injEq, Prod.mk.injEq] at h
        exact ⟨true, v, hp, R, W, hg, hr, h.1.symm, h.2.symm⟩
      · cases h
    · rename_i hg
      simp only [Option.some.injEq, Prod.mk.injEq] at h
      exact ⟨false, _, st.hp, [], [], hg, rfl, h.1.symm, h.2.symm⟩
    · cases h
  · rintro ⟨b, v, hp, R, W, hg, hr, rfl, rfl⟩
    rw [hg]
    cases b with
    | true => simp only [if_true] at hr; simp only [hr]
    | false =>
      simp only [Bool.false_eq_true, if_false, Prog.runF, Option.some.injEq, Prod.mk.injEq] at hr
      obtain ⟨rfl, rfl, rfl, rfl⟩ := hr
      rfl
theorem apartS_spec {o p : Oper} (h : apartS all o p = true) : (∀ d, o.dst = some d → d ∉ slotsOf all p) ∧ (∀ d, o.dst = some d → p.dst ≠ some d) ∧ (∀ d, p.dst = some d → d ∉ slotsOf all o) := by
  refine ⟨fun d hd => ?_, fun d hd => ?_, fun d hd => ?_⟩ <;> simp [apartS, hd] at h
  · exact h.1.1
  · exact h.1.2
  · exact h.2
theorem stepF_swap {o p : Oper} {st st1 st2 : AS} {f1 f2 : Foot} (h1 : stepF P E k call all o st = some (st1, f1)) (h2 : stepF P E k call all p st1 = some (st2, f2)) (hs : apartS all o p = true) (hf : apartF f1 f2 = true) :
    ∃ st1', stepF P E k call all p st = some (st1', f2) ∧ stepF P E k call all o st1' = some (st2, f1) := by
  obtain ⟨s1, s2, s3⟩ := apartS_spec hs
  obtain ⟨b1, v1, hp1, R1, W1, g1, r1, rfl, rfl⟩ := stepF_iff.1 h1
  obtain ⟨b2, v2, hp2, R2, W2, g2, r2, rfl, rfl⟩ := stepF_iff.1 h2
  simp only at g2 r2
  rw [guard_setd s1] at g2
  rw [evOp_setd s1] at r2
  obtain ⟨hq, q1, q2⟩ := runF_swap r1 r2 hf
  refine ⟨⟨setd st.fr p.dst v2, hq⟩, stepF_iff.2 ⟨b2, v2, hq, R2, W2, g2, q1, rfl, rfl⟩, stepF_iff.2 ⟨b1, v1, hp2, R1, W1, ?_, ?_, ?_, rfl⟩⟩
  · simp only; rw [guard_setd s3]; exact g1
  · simp only; rw [evOp_setd s3]; exact q2
  · simp only; rw [setd_comm s2]
/-! ### orders -/
inductive Waits (all : Array Oper) : Nat → Nat → Prop where
  | one {j : Nat} {o : Oper} {e : Edge} : all[j]? = some o → e ∈ o.after → Region.binds .any e = true → Waits all j e.on
  | more {j x : Nat} {o : Oper} {e : Edge} : all[j]? = some o → e ∈ o.after → Region.binds .any e = true → Waits all e.on x → Waits all j x
def Down (all : Array Oper) (listed : Array Bool) : Prop := ∀ j o e, listed.getD j false = true → all[j]? = some o → e ∈ o.after → Region.binds .any e = true → listed.getD e.on false = true
theorem Down.waits {listed : Array Bool} (h : Down all listed) {j x : Nat} (hw : Waits all j x) : listed.getD j false = true → listed.getD x false = true := by
  induction hw with
  | one ho he hb => exact fun hj => h _ _ _ hj ho he hb
  | more ho he hb _ ih => exact fun hj => ih (h _ _ _ hj ho he hb)
theorem ready_waits {listed : Array Bool} (h : Down all listed) {j x : Nat} (hr : j ∈ Region.ready .any all listed) (hw : Waits all j x) : listed.getD x false = true := by
  obtain ⟨_, o, ho, hall⟩ := mem_ready.1 hr
  cases hw with
  | one ho' he hb => rw [ho] at ho'; cases ho'; exact hall _ he hb
  | more ho' he hb hw => rw [ho] at ho'; cases ho'; exact h.waits hw (hall _ he hb)
theorem Down.set {listed : Array Bool} (h : Down all listed) {j : Nat} (hr : j ∈ Region.ready .any all listed) : Down all (listed.setIfInBounds j true) := by
  intro x o e hx ho he hb
  by_cases hjx : j = x
  · subst hjx
    obtain ⟨_, o', ho', hall⟩ := mem_ready.1 hr
    rw [ho] at ho'; cases ho'
    exact getD_set_true (hall e he hb)
  · rw [getD_set_ne false hjx] at hx
    exact getD_set_true (h x o e hx ho he hb)
def anyA (P : Program) (E : Cfg) (k : Nat) (call : Orc) (all : Array Oper) (fs : List Foot) (stf : AS) : Nat → Array Bool → AS → Prop
  | 0, listed, st => Region.ready .any all listed = [] ∧ st = stf
  | n + 1, listed, st => (Region.ready .any all listed = [] → st = stf) ∧ ∀ i ∈ Region.ready .any all listed, ∃ o st', all[i]? = some o ∧ stepF P E k call all o st = some (st', fs.getD i ⟨[], []⟩) ∧
      anyA P E k call all fs stf n (listed.setIfInBounds i true) st'
theorem anyA_first {fs : List Foot} {stf : AS} {i : Nat} {oi : Oper} (hi : all[i]? = some oi) : ∀ (n : Nat) (listed : Array Bool) (st st1 : AS), Down all listed →
    (∀ j oj, all[j]? = some oj → j ≠ i → listed.getD j true = false → ¬ Waits all j i → apartS all oi oj = true ∧ apartF (fs.getD i ⟨[], []⟩) (fs.getD j ⟨[], []⟩) = true) →
    i ∈ Region.ready .any all listed → stepF P E k call all oi st = some (st1, fs.getD i ⟨[], []⟩) → anyA P E k call all fs stf n (listed.setIfInBounds i true) st1 → anyA P E k call all fs stf (n + 1) listed st := by
  intro n
  induction n with
  | zero =>
    intro listed st st1 _ _ hr hs H
    refine ⟨fun h => (by rw [h] at hr; cases hr), fun j hj => ?_⟩
    by_cases hji : j = i
    · subst hji; exact ⟨oi, st1, hi, hs, H⟩
    · have := ready_mono hj hji
      rw [H.1] at this
      cases this
  | succ n ih =>
    intro listed st st1 hD hfree hr hs H
    refine ⟨fun h => (by rw [h] at hr; cases hr), fun j hj => ?_⟩
    by_cases hji : j = i
    · subst hji; exact ⟨oi, st1, hi, hs, H⟩
    · obtain ⟨oj, st2, hoj, hs2, H2⟩ := H.2 j (ready_mono hj hji)
      have hjun := (mem_ready.1 hj).1
      have hiun := (mem_ready.1 hr).1
      have hnw : ¬ Waits all j i := fun hw => by
        have h1 := ready_waits hD hj hw
        rcases Nat.lt_or_ge i listed.size with h' | h'
        · simp [h'] at hiun h1; rw [hiun] at h1; cases h1
        · simp [Array.getElem?_eq_none h'] at h1
      obtain ⟨a1, a2⟩ := hfree j oj hoj hji hjun hnw
      obtain ⟨st1', q1, q2⟩ := stepF_swap hs hs2 a1 a2
      refine ⟨oj, st1', hoj, q1, ih (listed.setIfInBounds j true) st1' st2 (hD.set hj) (fun x ox hx hxi hun hno => ?_) (ready_mono hr (Ne.symm hji)) q2 ?_⟩
      · refine hfree x ox hx hxi ?_ hno
        by_cases hjx : j = x
        · subst hjx; exact hjun
        · rw [getD_set_ne true hjx] at hun; exact hun
      · rw [Array.setIfInBounds_comm _ _ hji]
        exact H2
theorem runDraw_foots : ∀ (os : List Oper) {st stf : AS} {acc fs : List Foot}, runDraw P E k call all os st acc = some (stf, fs) → ∀ j, j < acc.length → fs.getD j ⟨[], []⟩ = acc.reverse.getD j ⟨[], []⟩
  | [], st, stf, acc, fs, h, j, hj => by
    simp only [runDraw, Option.some.injEq, Prod.mk.injEq] at h
    rw [h.2]
  | o :: os, st, stf, acc, fs, h, j, hj => by
    simp only [runDraw] at h
    split at h
    · rename_i st' f hs
      rw [runDraw_foots os h j (by simp; omega)]
      simp only [List.getD_eq_getElem?_getD, List.reverse_cons]
      rw [List.getElem?_append_left (by simpa using hj)]
    · cases h
theorem anyA_lex {fs : List Foot} {stf : AS} (hback : ∀ j o e, all[j]? = some o → e ∈ o.after → Region.binds .any e = true → e.on < j)
    (hfree : ∀ i j oi oj, i < j → all[i]? = some oi → all[j]? = some oj → ¬ Waits all j i → apartS all oi oj = true ∧ apartF (fs.getD i ⟨[], []⟩) (fs.getD j ⟨[], []⟩) = true) :
    ∀ (os : List Oper) (n : Nat) (listed : Array Bool) (st : AS) (acc : List Foot), (∀ j, os[j]? = all[n + j]?) → acc.length = n → runDraw P E k call all os st acc = some (stf, fs) → listed.size = all.size → (∀ j, j < all.size → listed.getD j true = decide (j < n)) →
    anyA P E k call all fs stf os.length listed st
  | [], n, listed, st, acc, hl, hn, h, hsz, hls => by
    simp only [runDraw, Option.some.injEq, Prod.mk.injEq] at h
    refine ⟨?_, h.1⟩
    refine List.eq_nil_iff_forall_not_mem.2 fun j hj => ?_
    obtain ⟨h0, o, ho, _⟩ := mem_ready.1 hj
    have hlt : j < all.size := (Array.getElem?_eq_some_iff.1 ho).1
    rw [hls j hlt] at h0
    have hnj : ¬ j < n := by simpa using h0
    have := hl (j - n)
    rw [show n + (j - n) = j by omega, ho] at this
    cases this
  | o :: os, n, listed, st, acc, hl, hn, h, hsz, hls => by
    have h0 : all[n]? = some o := by simpa using (hl 0).symm
    have hlt : n < all.size := (Array.getElem?_eq_some_iff.1 h0).1
    have hl' : ∀ j, os[j]? = all[n + 1 + j]? := fun j => by have := hl (j + 1); simpa [Nat.add_assoc, Nat.add_comm 1 j] using this
    simp only [runDraw] at h
    split at h
    case h_2 => cases h
    rename_i st' f hs
    have hfn : fs.getD n ⟨[], []⟩ = f := by
      rw [runDraw_foots os h n (by simp; omega)]
      simp only [List.getD_eq_getElem?_getD, List.reverse_cons]
      rw [List.getElem?_append_right (by simp; omega)]
      simp [hn]
    have hread : ∀ j, j < n → listed.getD j false = true := fun j hj => by
      have := hls j (by omega)
      rw [decide_eq_true hj] at this
      have hj2 : j < listed.size := by omega
      simpa [hj2] using this
    refine anyA_first h0 os.length listed st st' (fun j o' e hj ho he hb => ?_) (fun j oj hj hne hun hnw => ?_) ?_ (by rw [hfn]; exact hs) ?_
    · have hlt' : j < all.size := (Array.getElem?_eq_some_iff.1 ho).1
      have hj2 : j < listed.size := by omega
      have := hls j hlt'
      have hjn : j < n := by
        have e1 : listed.getD j true = listed.getD j false := by simp [hj2]
        rw [e1, hj] at this
        exact of_decide_eq_true this.symm
      exact hread _ (Nat.lt_trans (hback j o' e ho he hb) hjn)
    · have hlt' : j < all.size := (Array.getElem?_eq_some_iff.1 hj).1
      rw [hls j hlt'] at hun
      have hnj : ¬ j < n := by simpa using hun
      exact hfree n j o oj (by omega) h0 hj hnw
    · refine mem_ready.2 ⟨by rw [hls n hlt]; simp, o, h0, fun e he hb => hread _ (hback n o e h0 he hb)⟩
    · refine anyA_lex hback hfree os (n + 1) _ st' (f :: acc) hl' (by simp [hn]) h (by simpa using hsz) (fun j hj => ?_)
      by_cases hjn : n = j
      · subst hjn
        have hj2 : n < listed.size := by omega
        simp [hj2]
      · rw [getD_set_ne true hjn, hls j hj]
        exact decide_eq_decide.2 ⟨fun h => by omega, fun h => by omega⟩
theorem mask_bit (r : List Nat) (i : Nat) : ∀ (es : List Edge) (m : Nat), (es.foldl (fun m e => if Region.binds .any e then m ||| (1 <<< e.on ||| r.getD e.on 0) else m) m).testBit i = true →
    m.testBit i = true ∨ ∃ e ∈ es, Region.binds .any e = true ∧ (e.on = i ∨ (r.getD e.on 0).testBit i = true)
  | [], m, h => .inl h
  | e :: es, m, h => by
    rw [List.foldl_cons] at h
    rcases mask_bit r i es _ h with h1 | ⟨e', he', h1⟩
    · split at h1
      · rename_i hb
        rw [Nat.testBit_or, Nat.testBit_or, Bool.or_eq_true, Bool.or_eq_true] at h1
        rcases h1 with h1 | h1 | h1
        · exact .inl h1
        · rw [Nat.one_shiftLeft, Nat.testBit_two_pow] at h1
          exact .inr ⟨e, by simp, hb, .inl (of_decide_eq_true h1)⟩
        · exact .inr ⟨e, by simp, hb, .inr h1⟩
      · exact .inl h1
    · exact .inr ⟨e', by simp [he'], h1⟩
theorem waits_ok : ∀ (os : List Oper) (acc : List Nat) (n : Nat), acc.length = n → (∀ j, os[j]? = all[n + j]?) → (∀ j i, (acc.reverse.getD j 0).testBit i = true → Waits all j i) → ∀ j i, ((waits os acc).getD j 0).testBit i = true → Waits all j i
  | [], acc, n, hn, hl, ha, j, i, h => ha j i h
  | o :: os, acc, n, hn, hl, ha, j, i, h => by
    have h0 : all[n]? = some o := by simpa using (hl 0).symm
    have hl' : ∀ j, os[j]? = all[n + 1 + j]? := fun j => by have := hl (j + 1); simpa [Nat.add_assoc, Nat.add_comm 1 j] using this
    refine waits_ok os _ (n + 1) (by simp [hn]) hl' (fun j i hi => ?_) j i h
    simp only [List.reverse_cons, List.getD_eq_getElem?_getD] at hi
    rw [List.getElem?_append] at hi
    split at hi
    · exact ha j i (by simpa [List.getD_eq_getElem?_getD] using hi)
    · rename_i hj
      rw [List.getElem?_singleton] at hi
      split at hi
      · rename_i hj0
        have hjn : j = n := by simp at hj hj0; omega
        subst hjn
        simp only [Option.getD_some, wMask] at hi
        rcases mask_bit _ i _ _ hi with h1 | ⟨e, he, hb, h1⟩
        · simp at h1
        · rcases h1 with rfl | h1
          · exact .one h0 (by simpa using he) hb
          · exact .more h0 (by simpa using he) hb (ha _ _ h1)
      · simp at hi
theorem any_ok (hE : ELaw P E) (hC : OrcOk P call) {fs : List Foot} {stf : AS} {Q : Exit → Act → World → Prop} (hd : ∀ o ∈ all.toList, ∀ x, o.dst = some x → x < N) (hQ : ∀ a' w', StR k N K B stf a' w' → Q .normal a' w') :
    ∀ (n : Nat) (listed : Array Bool) {st : AS} {a : Act} {w : World}, anyA P E k call all fs stf n listed st → StR k N K B st a w → wpAny P .any all Q n listed a w
  | 0, listed, st, a, w, h, S => by
    obtain ⟨h1, rfl⟩ := h
    exact ⟨h1, hQ a w S⟩
  | n + 1, listed, st, a, w, h, S => by
    refine ⟨fun hr => hQ a w (h.1 hr ▸ S), fun i hi => ?_⟩
    obtain ⟨o, st', ho, hs, H⟩ := h.2 i hi
    have hdo := hd o (by have := Array.mem_of_getElem? ho; simpa using this)
    obtain ⟨b, v, hp, R, W, g, r, rfl, hf⟩ := stepF_iff.1 hs
    unfold wpOp
    simp only [ho]
    rw [S.guard g]
    cases b with
    | true =>
      simp only [if_true] at r ⊢
      exact .inl ((S.op hE hC hdo (runF_run _ r)).wp fun u w' S' => any_ok hE hC hd hQ n _ H S')
    | false =>
      simp only [Bool.false_eq_true, if_false, Prog.runF, Option.some.injEq, Prod.mk.injEq] at r ⊢
      obtain ⟨rfl, rfl, _⟩ := r
      exact any_ok hE hC hd hQ n _ H (S.skip hdo)
theorem StR.drawn {st : AS} {a : Act} {w : World} (S : StR k N K B st a w) (n : Nat) : StR k N K B st a { w with drawn := n } := by
  obtain ⟨I, m, G, E0, hf, hs, hdf⟩ := S
  obtain ⟨G2, E2⟩ := G.world (w' := { w with drawn := n }) (fun _ _ => rfl) ⟨fun _ _ => rfl, Nat.le_refl _, rfl, rfl, rfl⟩ (fun _ h => h) (fun _ h => .inl h) G.ilt
  exact ⟨I, m, G2, E0.trans E2, fun t => Rep.mono E2 _ _ _ (hf t), hs, hdf⟩
theorem region_any (hm : P.follows .mixedOrders = true) (hE : ELaw P E) (hC : OrcOk P call) {Q : Exit → Act → World → Prop} {st st' : AS} {a : Act} {w : World} {id : Nat} {fs : List Foot} (hd : ∀ o ∈ all.toList, ∀ x, o.dst = some x → x < N) (S : StR k N K B st a w)
    (h : runDraw P E k call all all.toList st [] = some (st', fs)) (h1 : drawS all = true) (h2 : drawF all fs = true) (hQ : ∀ a' w', StR k N K B st' a' w' → Q .normal a' w') :
    (Code.region id all true).wp P Q a w := by
  refine wp_region_any hm ?_
  simp only [drawS, Bool.and_eq_true, List.all_eq_true, List.mem_range, Bool.or_eq_true] at h1
  obtain ⟨h1a, h1b⟩ := h1
  simp only [drawF, List.all_eq_true, List.mem_range, Bool.or_eq_true] at h2
  have hget : ∀ j o, all[j]? = some o → all.getD j default = o := fun j o h => by simp [h]
  have hlex := anyA_lex (P := P) (E := E) (k := k) (call := call) (all := all) (fs := fs) (stf := st') (fun j o e hj he hb => by
      have hlt := (Array.getElem?_eq_some_iff.1 hj).1
      have := h1a j hlt e (by rw [hget j o hj]; simpa using he)
      rcases this with h | h
      · rw [hb] at h; cases h
      · exact of_decide_eq_true h)
    (fun i j oi oj hij hi hj hnw => by
      have hlt := (Array.getElem?_eq_some_iff.1 hj).1
      have nw : ((waits all.toList []).getD j 0).testBit i ≠ true := fun hc => hnw (waits_ok all.toList [] 0 rfl (by simp) (by simp) j i hc)
      have a1 := (h1b j hlt i hij).resolve_left nw
      have a2 := (h2 j hlt i hij).resolve_left nw
      rw [hget i oi hi, hget j oj hj] at a1
      exact ⟨a1, a2⟩)
    all.toList 0 (Array.replicate all.size false) st [] (by simp) rfl h (by simp) (fun j hj => by simp [hj])
  rw [Array.length_toList] at hlex
  exact any_ok hE hC hd hQ all.size _ hlex (S.drawn _)
end
end Go.Ab
namespace Go.Ab
open Go
section
variable {P : Program} {K : Nat → Prop} {k N : Nat} {B : Base} {E : Cfg} {call : Orc}
theorem StR.dryOne {st : AS} {a : Act} {w : World} (S : StR k N K B st a w) (s : Nat) : StR k N K B (Ab.dryOne s st) a w := by
  unfold Ab.dryOne
  split
  · rename_i x g off hs0
    split
    · rename_i v hp' hr
      obtain ⟨I, m, G, E0, hf, hs, hdf⟩ := S
      have h0 := hf s
      rw [hs0] at h0
      obtain ⟨I', G', E', R', _⟩ := capD_frz G h0 hr
      refine ⟨I', m, G', E0.trans E', fun t => ?_, hs, hdf⟩
      simp only
      split
      · rename_i ht; subst ht; exact RepD.rep R'
      · exact Rep.mono E' _ _ _ (hf t)
    · exact S
  · exact S
theorem StR.dryAll {a : Act} {w : World} : ∀ (ss : List Nat) {st : AS}, StR k N K B st a w → StR k N K B (Ab.dryAll ss st) a w
  | [], _, S => S
  | s :: ss, _, S => StR.dryAll ss (S.dryOne s)
theorem evRegion_ok (hm : P.follows .mixedOrders = true) (hE : ELaw P E) (hC : OrcOk P call) {Q : Exit → Act → World → Prop} {ops : Array Oper} {draw : Bool} {st st' : AS} {a : Act} {w : World} {id : Nat} (hd : ∀ o ∈ ops.toList, ∀ x, o.dst = some x → x < N)
    (S : StR k N K B st a w) (h : evRegion P E k call ops draw st = some st') (hQ : ∀ a' w', StR k N K B st' a' w' → Q .normal a' w') : (Code.region id ops draw).wp P Q a w := by
  unfold evRegion at h
  cases draw with
  | true =>
    simp only [if_true] at h
    split at h
    · rename_i st1 fs hr
      split at h
      · rename_i hc
        simp only [Bool.and_eq_true] at hc
        cases h
        exact region_any hm (E := E.dry) (ELaw.dry hE.1) hC hd S hr hc.1 hc.2 hQ
      · split at h
        · rename_i st2 fs2 hr2
          split at h
          · rename_i hc
            simp only [Bool.and_eq_true] at hc
            cases h
            exact region_any hm (E := E.dry) (ELaw.dry hE.1) hC hd (StR.dryAll _ S) hr2 hc.1 hc.2 hQ
          · cases h
        · cases h
    · cases h
  | false =>
    simp only [Bool.false_eq_true, if_false] at h
    exact region_text hE hC hd S h hQ
open Classical in
noncomputable def least (p : Nat → Prop) : Nat := if h : ∃ n, p n ∧ ∀ m, p m → n ≤ m then Classical.choose h else 0
theorem least_spec {p : Nat → Prop} (h : ∃ n, p n) : p (least p) ∧ ∀ m, p m → least p ≤ m := by
  have hex : ∃ n, p n ∧ ∀ m, p m → n ≤ m := by
    obtain ⟨n, hn⟩ := h
    induction n using Nat.strongRecOn with
    | _ n ih =>
      by_cases hc : ∃ m, m < n ∧ p m
      · obtain ⟨m, hm, hp⟩ := hc
        exact ih m hm hp
      · exact ⟨n, hn, fun m hm => Nat.le_of_not_lt fun hlt => hc ⟨m, hlt, hm⟩⟩
  unfold least
  rw [dif_pos hex]
  exact Classical.choose_spec hex
def exOf : Ex → Exit
  | .normal => .normal
  | .exit id => .exit id
  | .ret => .ret
theorem evC_ok (hm : P.follows .mixedOrders = true) (hE : ELaw P E) (hC : OrcOk P call) : ∀ (n : Nat) (c : Code) {Q : Exit → Act → World → Prop} {st st' : AS} {e : Ex} {a : Act} {w : World}, slotsIn N c = true → StR k N K B st a w → evC P E k call n c st = some (e, st') →
    (∀ a' w', StR k N K B st' a' w' → Q (exOf e) a' w') → c.wp P Q a w
  | 0, c, Q, st, st', e, a, w, _, _, h, _ => by simp [evC] at h
  | n + 1, c, Q, st, st', e, a, w, hs, S, h, hQ => by
    cases c with
    | skip =>
      simp only [evC, Option.some.injEq, Prod.mk.injEq] at h
      obtain ⟨rfl, rfl⟩ := h
      exact wp_skip (hQ a w S)
    | label l =>
      simp only [evC, Option.some.injEq, Prod.mk.injEq] at h
      obtain ⟨rfl, rfl⟩ := h
      exact wp_label (hQ a w S)
    | region id ops d =>
      simp only [evC] at h
      cases hr : evRegion P E k call ops d st with
      | none => rw [hr] at h; cases h
      | some s =>
        rw [hr] at h
        simp only [Option.map_some, Option.some.injEq, Prod.mk.injEq] at h
        obtain ⟨rfl, rfl⟩ := h
        refine evRegion_ok hm hE hC (fun o ho x hx => ?_) S hr hQ
        simp only [slotsIn, List.all_eq_true, Bool.and_eq_true] at hs
        have := (hs o ho).1
        rw [hx] at this
        simpa using this
    | seq x y =>
      simp only [slotsIn, Bool.and_eq_true] at hs
      simp only [evC] at h
      split at h
      · rename_i s h1
        exact wp_seq (evC_ok hm hE hC n x hs.1 S h1 fun a' w' S' => evC_ok hm hE hC n y hs.2 S' h hQ)
      · rename_i hne
        refine wp_seq (evC_ok hm hE hC n x hs.1 S h fun a' w' S' => ?_)
        have := hQ a' w' S'
        cases e with
        | normal => exact (hne st' h).elim
        | exit id => exact this
        | ret => exact this
    | cond c x y =>
      simp only [slotsIn, Bool.and_eq_true] at hs
      simp only [evC] at h
      split at h
      · rename_i t ht
        have hc : a.eval c = .bool t := by
          obtain ⟨I, m, G, E0, hf, hsz, hdf⟩ := S
          have := opA_ok G hf c
          rw [ht] at this
          simpa only [Rep] using this
        refine wp_cond hc ?_
        cases t with
        | true => exact evC_ok hm hE hC n x hs.1.2 S (by simpa using h) hQ
        | false => exact evC_ok hm hE hC n y hs.2 S (by simpa using h) hQ
      · cases h
    | block id x =>
      simp only [slotsIn] at hs
      simp only [evC] at h
      split at h
      · rename_i i s h1
        refine wp_block (evC_ok hm hE hC n x hs S h1 fun a' w' S' => ?_)
        simp only [exOf, Exit.inBlock]
        split at h
        · rename_i hi
          simp only [Option.some.injEq, Prod.mk.injEq] at h
          obtain ⟨rfl, rfl⟩ := h
          rw [if_pos hi]
          exact hQ a' w' S'
        · rename_i hi
          simp only [Option.some.injEq, Prod.mk.injEq] at h
          obtain ⟨rfl, rfl⟩ := h
          rw [if_neg hi]
          exact hQ a' w' S'
      · rename_i hne
        refine wp_block (evC_ok hm hE hC n x hs S h fun a' w' S' => ?_)
        have := hQ a' w' S'
        cases e with
        | normal => exact this
        | exit i => exact (hne i st' h).elim
        | ret => exact this
    | loop x =>
      simp only [slotsIn] at hs
      refine wp_loop (I := fun a w => ∃ g s, g ≤ n + 1 ∧ StR k N K B s a w ∧ evC P E k call g (.loop x) s = some (e, st'))
        (μ := fun a w => least fun g => ∃ s, g ≤ n + 1 ∧ StR k N K B s a w ∧ evC P E k call g (.loop x) s = some (e, st')) ⟨n + 1, st, Nat.le_refl _, S, h⟩ ?_
      intro a w hI
      obtain ⟨⟨s, hg, S, h⟩, _⟩ := least_spec (p := fun g => ∃ s, g ≤ n + 1 ∧ StR k N K B s a w ∧ evC P E k call g (.loop x) s = some (e, st')) hI
      generalize hgl : least (fun g => ∃ s, g ≤ n + 1 ∧ StR k N K B s a w ∧ evC P E k call g (.loop x) s = some (e, st')) = g at hg h
      cases g with
      | zero => simp [evC] at h
      | succ g' =>
        have hlt : g' < n + 1 := by omega
        simp only [evC] at h
        split at h
        · rename_i s1 h1
          refine evC_ok hm hE hC g' x hs S h1 fun a' w' S' => ⟨⟨g', s1, by omega, S', h⟩, ?_⟩
          have := (least_spec (p := fun g => ∃ s, g ≤ n + 1 ∧ StR k N K B s a' w' ∧ evC P E k call g (.loop x) s = some (e, st')) ⟨g', s1, by omega, S', h⟩).2 g' ⟨s1, by omega, S', h⟩
          exact Nat.lt_succ_of_le this
        · rename_i hne
          refine evC_ok hm hE hC g' x hs S h fun a' w' S' => ?_
          have := hQ a' w' S'
          cases e with
          | normal => exact (hne st' h).elim
          | exit i => exact this
          | ret => exact this
    | exit id =>
      simp only [evC, Option.some.injEq, Prod.mk.injEq] at h
      obtain ⟨rfl, rfl⟩ := h
      exact wp_exit (hQ a w S)
    | ret =>
      simp only [evC, Option.some.injEq, Prod.mk.injEq] at h
      obtain ⟨rfl, rfl⟩ := h
      exact wp_ret (hQ a w S)
    | _ => simp [evC] at h
termination_by n => n
end
end Go.Ab
namespace Go.Ab
open Go
section
variable {P : Program} {I K : Nat → Prop} {m : Mp} {hp hp' : Hp} {w : World} {k : Nat}
theorem RepH.bs {ct : TypeId} {a : AV} {u : Value} {bs : List Nat} (h : RepH P I K w ct a u bs) : ∀ b ∈ bs, ¬ I b ∧ ¬ K b := by
  cases a with
  | vec sz rows =>
    rcases h with ⟨_, _, rfl⟩ | ⟨b, cap, us, mk, e, rfl, h2, h3, h4, h5, h6, h7, h8, h9, h10, h11⟩
    · simp
    · intro c hc
      rw [List.mem_singleton] at hc
      subst hc
      exact ⟨h10, h11⟩
  | _ =>
    have : bs = [] := h.1
    subst this
    simp
theorem RepHL.bs : ∀ {cts : List TypeId} {as : List AV} {us : List Value} {bs : List Nat}, RepHL P I K w cts as us bs → ∀ b ∈ bs, ¬ I b ∧ ¬ K b
  | cts, [], _, bs, h => by
    have : bs = [] := by cases cts <;> simp only [RepHL] at h <;> exact h.2
    subst this; simp
  | [], _ :: _, _, _, h => by simp [RepHL] at h
  | t :: ts, a :: as, us, bs, h => by
    simp only [RepHL] at h
    obtain ⟨u, us', b1, b2, rfl, rfl, h1, h2⟩ := h
    intro b hb
    rcases List.mem_append.1 hb with hb | hb
    · exact RepH.bs h1 b hb
    · exact RepHL.bs h2 b hb
theorem RepH.noK {ct : TypeId} {a : AV} {u : Value} {bs : List Nat} (h : RepH P I K w ct a u bs) : RepH P I (fun _ => False) w ct a u bs := by
  cases a with
  | vec sz rows =>
    rcases h with h | ⟨b, cap, us, mk, e, h1, h2, h3, h4, h5, h6, h7, h8, h9, h10, h11⟩
    · exact .inl h
    · exact .inr ⟨b, cap, us, mk, e, h1, h2, h3, h4, h5, h6, h7, h8, h9, h10, fun h => h⟩
  | _ => exact h
theorem RepHL.noK : ∀ {cts : List TypeId} {as : List AV} {us : List Value} {bs : List Nat}, RepHL P I K w cts as us bs → RepHL P I (fun _ => False) w cts as us bs
  | cts, [], _, _, h => by cases cts <;> exact h
  | [], _ :: _, _, _, h => by simp [RepHL] at h
  | t :: ts, a :: as, us, bs, h => by
    simp only [RepHL] at h ⊢
    obtain ⟨u, us', b1, b2, e1, e2, h1, h2⟩ := h
    exact ⟨u, us', b1, b2, e1, e2, RepH.noK h1, RepHL.noK h2⟩
theorem RepHL.mono {I' : Nat → Prop} (hi : ∀ b, I b → I' b) : ∀ {cts : List TypeId} {as : List AV} {us : List Value} {bs : List Nat}, (∀ b ∈ bs, ¬ I b → ¬ I' b) → RepHL P I K w cts as us bs → RepHL P I' K w cts as us bs
  | cts, [], _, _, _, h => by cases cts <;> exact h
  | [], _ :: _, _, _, _, h => by simp [RepHL] at h
  | t :: ts, a :: as, us, bs, hn, h => by
    simp only [RepHL] at h ⊢
    obtain ⟨u, us', b1, b2, rfl, rfl, h1, h2⟩ := h
    exact ⟨u, us', b1, b2, rfl, rfl, RepH.mono hi (fun b hb => hn b (List.mem_append.2 (.inl hb))) h1, RepHL.mono hi (fun b hb => hn b (List.mem_append.2 (.inr hb))) h2⟩
theorem RepRes.mono {I' : Nat → Prop} (hi : ∀ b, I b → I' b) {t : TypeId} {a : AV} {u : Value} {bs : List Nat} (hn : ∀ b ∈ bs, ¬ I b → ¬ I' b) (h : RepRes P I w t a u bs) : RepRes P I' w t a u bs := by
  unfold RepRes at h ⊢
  split
  · rename_i hagg
    rw [if_pos hagg] at h
    obtain ⟨cs, us, e1, e2, h3⟩ := h
    exact ⟨cs, us, e1, e2, RepHL.mono hi hn h3⟩
  · rename_i hagg
    rw [if_neg hagg] at h
    exact RepH.mono hi hn h
theorem tcs_one {t : TypeId} (h : isAggB P t = false) : tcs P t = [t] := by
  unfold tcs tcsN
  unfold isAggB at h
  split
  · rename_i hu; rw [hu] at h; cases h
  · rename_i hu; rw [hu] at h; cases h
  · rfl
theorem hand_ok (G : Gam I K m hp w) {t : TypeId} {v v' : AV} {u : Value} (hr : Rep k I m hp w v u) (h : (hand P t v).run hp = some (v', hp')) :
    ∃ I' bs, Gam I' K m hp' w ∧ Ext I K m hp w I' m hp' w ∧ RepRes P I' w t v' u bs ∧ (∀ b ∈ bs, ¬ I' b ∧ ¬ K b) ∧ (∀ b, I' b → I b ∨ LiveB m hp b) ∧ (∀ b ∈ bs, LiveB m hp b ∧ ¬ LiveB m hp' b) ∧ (∀ b, LiveB m hp' b → LiveB m hp b) ∧ bs.Nodup := by
  unfold hand at h
  split at h
  case isFalse => simp [Prog.run] at h
  rename_i hc
  obtain ⟨hl, ha⟩ := hc
  obtain ⟨x, hp0, r0, h2⟩ := run_bind_some h
  clear h
  obtain ⟨e0, hcl, us1, hu1, hu2⟩ := cells_ok r0 hr
  rw [e0] at h2
  obtain ⟨cs, hp1, r1, h3⟩ := run_bind_some h2
  clear h2
  obtain ⟨I1, bs, G1, E1, d1, i1, l1, m1, n1⟩ := handL_ok G hcl r1
  have hbs := RepHL.bs d1
  have d1 := RepHL.noK d1
  rw [← ha] at h3
  unfold oneV at h3
  cases hb : aggA v with
  | true =>
    rw [hb] at h3 hu1
    simp only [if_true, Prog.run, Option.some.injEq, Prod.mk.injEq] at h3 hu1
    obtain ⟨rfl, rfl⟩ := h3
    refine ⟨I1, bs, G1, E1, ?_, hbs, i1, l1, m1, n1⟩
    unfold RepRes
    rw [if_pos (by rw [← ha, hb])]
    rw [hu1] at d1
    exact ⟨cs, us1, rfl, hu1, d1⟩
  | false =>
    rw [hb] at h3
    rw [hu2 hb, tcs_one (by rw [← ha, hb])] at d1
    simp only [Bool.false_eq_true, if_false] at h3
    split at h3
    · rename_i c
      simp only [Prog.run, Option.some.injEq, Prod.mk.injEq] at h3
      obtain ⟨rfl, rfl⟩ := h3
      refine ⟨I1, bs, G1, E1, ?_, hbs, i1, l1, m1, n1⟩
      unfold RepRes
      rw [if_neg (by rw [← ha, hb]; simp)]
      simp only [RepHL] at d1
      obtain ⟨u', us', b1, b2, e1, e2, h1, e3, e4⟩ := d1
      simp only [List.cons.injEq] at e1
      obtain ⟨rfl, _⟩ := e1
      subst e2 e4
      simpa using h1
    · simp [Prog.run] at h3
theorem load_ptr (P : Program) (G : Gam I K m hp w) {t : TypeId} {a v : AV} {u : Value} (hr : Rep k I m hp w a u) (h : (loadP P t a).run hp = some (v, hp')) : ∃ ad, u = .pointer (some ad) := by
  unfold loadP at h
  split at h
  · split at h
    · rename_i hpos
      obtain ⟨cs, hp1, r1, _⟩ := run_bind_some h
      obtain ⟨_, _, b, o, us, rfl, _⟩ := cellsFrom_ok G hpos hr r1
      exact ⟨_, rfl⟩
    · simp [Prog.run] at h
  · split at h
    · obtain ⟨cs, hp1, r1, _⟩ := run_bind_some h
      obtain ⟨_, _, b, o, us, rfl, _⟩ := cellsFrom_ok G (by omega) hr r1
      exact ⟨_, rfl⟩
    · simp [Prog.run] at h
def readRes (tmps : Array Value) : ResultVar → Sem Value
  | .tmp t => pure (tmps.getD t undef)
  | .cell a t => do loadVar t (← asAddr (tmps.getD a undef))
theorem results_ok {fr : Nat → AV} {a : Act} : ∀ {ts : List TypeId} {rvs : List ResultVar} {rs : List AV} {I : Nat → Prop} {hp hp' : Hp}, Gam I K m hp w → (∀ t, Rep k I m hp w (fr t) (a.eval (.tmp t))) → (resultsP P fr ts rvs).run hp = some (rs, hp') →
    ∃ I' bs us, (rvs.mapM (readRes a.tmps)).run P w = .ok us w ∧ Gam I' K m hp' w ∧ Ext I K m hp w I' m hp' w ∧ RepResL P I' w ts rs us bs ∧ (∀ b ∈ bs, ¬ I' b ∧ ¬ K b) ∧ (∀ b, I' b → I b ∨ LiveB m hp b) ∧ (∀ b ∈ bs, LiveB m hp b ∧ ¬ LiveB m hp' b) ∧
      (∀ b, LiveB m hp' b → LiveB m hp b) ∧ bs.Nodup
  | [], [], rs, I, hp, hp', G, hf, h => by
    simp only [resultsP, Prog.run, Option.some.injEq, Prod.mk.injEq] at h
    obtain ⟨rfl, rfl⟩ := h
    exact ⟨I, [], [], rfl, G, .refl _ _ _ _ _, ⟨rfl, rfl⟩, by simp, fun _ h => .inl h, by simp, fun _ h => h, by simp⟩
  | [], _ :: _, _, _, _, _, _, _, h => by simp [resultsP, Prog.run] at h
  | _ :: _, [], _, _, _, _, _, _, h => by simp [resultsP, Prog.run] at h
  | t :: ts, rv :: rvs, rs, I, hp, hp', G, hf, h => by
    simp only [resultsP] at h
    obtain ⟨v, hp1, r1, h2⟩ := run_bind_some h
    clear h
    obtain ⟨vs, hp2, r2, h3⟩ := run_bind_some h2
    clear h2
    simp only [Prog.run, Option.some.injEq, Prod.mk.injEq] at h3
    obtain ⟨rfl, rfl⟩ := h3
    have one : ∃ u, (readRes a.tmps rv).run P w = .ok u w ∧ ∃ v0, Rep k I m hp w v0 u ∧ (hand P t v0).run hp = some (v, hp1) := by
      cases rv with
      | tmp s =>
        simp only [resultP] at r1
        exact ⟨_, rfl, _, hf s, r1⟩
      | cell c t' =>
        simp only [resultP] at r1
        split at r1
        · rename_i ht
          subst ht
          obtain ⟨v0, hp0, r0, h4⟩ := run_bind_some r1
          obtain ⟨e0, u', hrun, hrep⟩ := load_ok P G (hf c) r0
          obtain ⟨ad, had⟩ := load_ptr P G (hf c) r0
          rw [e0] at h4
          refine ⟨u', ?_, v0, hrep, h4⟩
          have hev : a.tmps.getD c undef = .pointer (some ad) := had
          rw [had] at hrun
          simp only [readRes, hev, asAddr]
          simpa [Instr.loadAt, Instr.sureAddr] using hrun
        · simp [Prog.run] at r1
    obtain ⟨u, hu, v0, hv0, r1'⟩ := one
    obtain ⟨I1, b1, G1, E1, d1, nb1, i1, l1, m1, n1⟩ := hand_ok G hv0 r1'
    obtain ⟨I2, b2, us, hus, G2, E2, d2, nb2, i2, l2, m2, n2⟩ := results_ok G1 (fun s => Rep.mono E1 _ _ _ (hf s)) r2
    have hn1 : ∀ b ∈ b1, ¬ I1 b → ¬ I2 b := fun b hb hn hi => by
      rcases i2 b hi with h | h
      · exact hn h
      · exact (l1 b hb).2 h
    refine ⟨I2, b1 ++ b2, u :: us, ?_, G2, E1.trans E2, ⟨u, us, b1, b2, rfl, rfl, d1.mono E2.isub hn1, d2⟩, fun b hb => ?_, fun b hb => ?_, fun b hb => ?_, fun b hb => m1 b (m2 b hb), ?_⟩
    · rw [List.mapM_cons, Sem.run_bind, hu, Result.andThen_ok, Sem.run_bind, hus]
      rfl
    · rcases List.mem_append.1 hb with hb | hb
      · exact ⟨hn1 b hb (nb1 b hb).1, (nb1 b hb).2⟩
      · exact nb2 b hb
    · rcases i2 b hb with hb | hb
      · exact i1 b hb
      · exact .inr (m1 b hb)
    · rcases List.mem_append.1 hb with hb | hb
      · exact ⟨(l1 b hb).1, fun hl => (l1 b hb).2 (m2 b hl)⟩
      · exact ⟨m1 b (l2 b hb).1, (l2 b hb).2⟩
    · rw [List.nodup_append]
      exact ⟨n1, n2, fun b hb1 c hc hbc => (l1 b hb1).2 (by rw [hbc]; exact (l2 c hc).1)⟩
theorem run_results (fn : Func) (tmps : Array Value) (us : List Value) (h : (fn.results.toList.mapM (readRes tmps)).run P w = .ok us w) : (results fn tmps).run P w = .ok (retV us) w := by
  have : results fn tmps = (do let vs ← fn.results.mapM (readRes tmps); pure (if h : vs.size = 1 then vs[0] else .tuple vs)) := by
    unfold results
    congr 1
  rw [this, Array.mapM_eq_mapM_toList, Sem.run_bind, Sem.run_map, h]
  simp only [Result.andThen_ok]
  match us with
  | [] => rfl
  | [x] => rfl
  | _ :: _ :: _ => rfl
end
theorem repA_rep {k : Nat} {I : Nat → Prop} {m : Mp} {hp : Hp} {w : World} {a : AV} {u : Value} (h : RepA I w a u) : Rep k I m hp w a u := by
  unfold RepA at h
  split at h
  · obtain ⟨us, rfl, h⟩ := h
    simp only [Rep]
    exact ⟨us, rfl, (RepL_iff _ _).2 (((RepDL_iff _ _).1 h).imp fun a u h => RepD.rep h)⟩
  · exact RepD.rep h
section
variable {P : Program} {E : Cfg}
theorem evFn_ok (hm : P.follows .mixedOrders = true) (hE : ELaw P E) {call : Orc} (hC : OrcOk P call) {n f : Nat} {fn : Func} (hfn : P.funcs[f]? = some fn) {args rs : List AV} (h : evFn P E call n fn args = some rs)
    {I : Nat → Prop} {w : World} {us : List Value} (hI : ∀ b, I b → b < w.heap.size) (hgl : GlOk I w) (ha : AllR (RepA I w) args us) : Calls P f ⟨us⟩ w (fun e w' => ∃ u, e = .returned u ∧ CallPost P I w (rtys P f) rs u w') := by
  unfold evFn at h
  split at h
  case h_2 => cases h
  rename_i c hb
  split at h
  case isFalse => cases h
  rename_i hc
  simp only [Bool.and_eq_true, beq_iff_eq] at hc
  obtain ⟨hbo, hlen⟩ := hc
  unfold bodyOk at hbo
  rw [hb] at hbo
  simp only [Bool.and_eq_true, decide_eq_true_eq] at hbo
  obtain ⟨⟨hs1, hs2⟩, hs3⟩ := hbo
  have hus : us.length = fn.params.size + fn.nfree := by rw [← ha.1]; exact hlen
  have hrt : rtys P f = fn.resultTypes.toList := by simp [rtys, hfn]
  refine calls_of_wp hfn hb ?_
  -- how it begins
  have S0 : StR 0 fn.ntmps (fun b => b < w.heap.size ∧ ¬ I b) ⟨I, fun _ => none, hp0, w, []⟩ ⟨frame0 args, hp0⟩ { tmps := (⟨us⟩ : Array Value) ++ Array.replicate (fn.ntmps - (⟨us⟩ : Array Value).size) undef, defers := [] } w := by
    refine ⟨I, fun _ => none, ⟨fun x => trivial, fun x y p q hl => by simp [hp0, AObj.live] at hl, hI, fun b hb => hb.1, fun b hb hk => hk.2 hb, hgl⟩, .refl _ _ _ _ _, fun t => ?_, ?_, rfl⟩
    · by_cases ht : t < us.length
      · have ht' : t < args.length := by rw [ha.1]; exact ht
        have e1 : frame0 args t = args[t] := by simp [frame0, ht']
        have e2 : Act.eval { tmps := (⟨us⟩ : Array Value) ++ Array.replicate (fn.ntmps - (⟨us⟩ : Array Value).size) undef, defers := [] } (.tmp t) = us[t] := by
          simp [Act.eval, Array.getElem?_append, ht]
        rw [e2]
        show Rep 0 I (fun _ => none) hp0 w (frame0 args t) _
        rw [e1]
        exact repA_rep (ha.2 t _ _ (List.getElem?_eq_getElem ht') (List.getElem?_eq_getElem ht))
      · have ht' : ¬ t < args.length := by rw [ha.1]; exact ht
        have e1 : frame0 args t = .sc undef := by simp only [frame0, List.getD_eq_getElem?_getD]; rw [List.getElem?_eq_none (by omega)]; rfl
        have e2 : Act.eval { tmps := (⟨us⟩ : Array Value) ++ Array.replicate (fn.ntmps - (⟨us⟩ : Array Value).size) undef, defers := [] } (.tmp t) = undef := by
          simp only [Act.eval, Array.getD_eq_getD_getElem?, Array.getElem?_append]
          rw [if_neg (by simpa using ht), Array.getElem?_replicate]
          split <;> rfl
        rw [e2]
        show Rep 0 I (fun _ => none) hp0 w (frame0 args t) _
        rw [e1]
        simp only [Rep]
    · simp only [Array.size_append, List.size_toArray, Array.size_replicate]
      omega
  -- how it ends
  have fin : ∀ (st : AS) (hpf : Hp), (resultsP P st.fr fn.resultTypes.toList fn.results.toList).run st.hp = some (rs, hpf) → ∀ a' w', StR 0 fn.ntmps (fun b => b < w.heap.size ∧ ¬ I b) ⟨I, fun _ => none, hp0, w, []⟩ st a' w' →
      a'.defers = [] ∧ ∃ v, (results fn a'.tmps).run P w' = .ok v w' ∧ ∃ u, Ending.returned v = .returned u ∧ CallPost P I w (rtys P f) rs u w' := by
    intro st hpf hr a' w' S
    obtain ⟨I1, m1, G1, E1, hf1, _, hd1⟩ := S
    obtain ⟨I2, bs, us', hrun, G2, E2, d2, nb, i2, l2, m2, n2⟩ := results_ok G1 hf1 hr
    refine ⟨hd1, retV us', run_results fn _ us' hrun, retV us', rfl, ?_⟩
    have E12 := E1.trans E2
    exact {
      old := fun b hb => E12.keep b (by
        by_cases hi : I b
        · exact .inl hi
        · exact .inr ⟨hb, hi⟩)
      size := E12.size
      os := E12.os
      tape := E12.tape
      output := E12.output
      res := ⟨I2, us', bs, rfl, E12.isub, fun b hb => by
          by_cases hi : I b
          · exact .inl hi
          · exact .inr (Nat.le_of_not_lt fun hlt => G2.ik b hb ⟨hlt, hi⟩), G2.ilt, fun b hb => by
          refine ⟨Nat.le_of_not_lt fun hlt => ?_, (nb b hb).1⟩
          by_cases hi : I b
          · exact (nb b hb).1 (E12.isub b hi)
          · exact (nb b hb).2 ⟨hlt, hi⟩, n2, by rw [hrt]; exact d2⟩ }
  split at h
  · cases h
  · rename_i e st hne hev
    cases hr : (resultsP P st.fr fn.resultTypes.toList fn.results.toList).run st.hp with
    | none => rw [hr] at h; cases h
    | some p =>
      obtain ⟨rs', hpf⟩ := p
      rw [hr] at h
      simp only [Option.map_some, Option.some.injEq] at h
      subst h
      refine evC_ok hm hE hC n c hs1 S0 hev fun a' w' S => ?_
      have hfin := fin st hpf hr a' w' S
      cases e with
      | normal => exact hfin
      | exit i => exact (hne i rfl).elim
      | ret => exact hfin
  · cases h
/-! ### calls on the caller's heap -/
theorem escL_ok {K : Nat → Prop} {w : World} {k : Nat} {f : Nat → AV → Prog AV}
    (hf : ∀ {I : Nat → Prop} {m : Mp} {hp hp' : Hp} {c : Nat} {v v' : AV} {u : Value}, Gam I K m hp w → Rep (k + 1) I m hp w v u → (f c v).run hp = some (v', hp') → ∃ I' m', Sim I' K m' hp' w v' k I m hp w u) :
    ∀ {as as' : List AV} {us : List Value} {c : Nat} {I : Nat → Prop} {m : Mp} {hp hp' : Hp}, Gam I K m hp w → AllR (Rep (k + 1) I m hp w) as us → (escL f c as).run hp = some (as', hp') →
    ∃ I' m', Gam I' K m' hp' w ∧ Ext I K m hp w I' m' hp' w ∧ AllR (Rep k I' m' hp' w) as' us
  | [], as', us, c, I, m, hp, hp', G, hr, h => by
    simp only [escL, Prog.run, Option.some.injEq, Prod.mk.injEq] at h
    obtain ⟨rfl, rfl⟩ := h
    have : us = [] := List.eq_nil_of_length_eq_zero (by rw [← hr.1]; rfl)
    subst this
    exact ⟨I, m, G, .refl _ _ _ _ _, .nil⟩
  | a :: as, as', us, c, I, m, hp, hp', G, hr, h => by
    obtain ⟨u, us', rfl, h1, h2⟩ := hr.cons_inv
    simp only [escL] at h
    obtain ⟨v1, hp1, r1, h3⟩ := run_bind_some h
    clear h
    obtain ⟨vs, hp2, r2, h4⟩ := run_bind_some h3
    clear h3
    simp only [Prog.run, Option.some.injEq, Prod.mk.injEq] at h4
    obtain ⟨rfl, rfl⟩ := h4
    obtain ⟨I1, m1, G1, E1, R1⟩ := hf G h1 r1
    obtain ⟨I2, m2, G2, E2, R2⟩ := escL_ok hf G1 (h2.imp fun a u h => Rep.mono E1 _ a u h) r2
    exact ⟨I2, m2, G2, E1.trans E2, .cons (Rep.mono E2 _ _ _ R1) R2⟩
theorem escC_ok {K : Nat → Prop} {w : World} {k d : Nat} : ∀ (n : Nat) {cap : Bool} {I : Nat → Prop} {m : Mp} {hp hp' : Hp} {c : Nat} {v v' : AV} {u : Value}, Gam I K m hp w → Rep (k + 1) I m hp w v u → (escC P k d n cap c v).run hp = some (v', hp') →
    ∃ I' m', Sim I' K m' hp' w v' k I m hp w u := by
  intro n
  induction n with
  | zero =>
    intro cap I m hp hp' c v v' u G hr h
    cases v with
    | sc x =>
      simp only [escC, Prog.run, Option.some.injEq, Prod.mk.injEq] at h
      obtain ⟨rfl, rfl⟩ := h
      exact ⟨I, m, G, .refl _ _ _ _ _, by simpa only [Rep] using hr⟩
    | sl f sz rows =>
      simp only [escC, Prog.run, Option.some.injEq, Prod.mk.injEq] at h
      obtain ⟨rfl, rfl⟩ := h
      exact ⟨I, m, G, .refl _ _ _ _ _, by simpa only [Rep] using hr⟩
    | dp c o =>
      simp only [escC, Prog.run, Option.some.injEq, Prod.mk.injEq] at h
      obtain ⟨rfl, rfl⟩ := h
      exact ⟨I, m, G, .refl _ _ _ _ _, by simpa only [Rep] using hr⟩
    | own x g n =>
      simp only [escC] at h
      split at h
      · rename_i hd
        simp only [Prog.run, Option.some.injEq, Prod.mk.injEq] at h
        obtain ⟨rfl, rfl⟩ := h
        refine ⟨I, m, G, .refl _ _ _ _ _, ?_⟩
        simp only [Rep] at hr ⊢
        exact ⟨hd, hr.2⟩
      · obtain ⟨I', m', G', E', R', _⟩ := settle_ok G hr h
        exact ⟨I', m', G', E', R'⟩
    | ptr x g o =>
      simp only [escC] at h
      split at h
      · rename_i hd
        simp only [Prog.run, Option.some.injEq, Prod.mk.injEq] at h
        obtain ⟨rfl, rfl⟩ := h
        refine ⟨I, m, G, .refl _ _ _ _ _, ?_⟩
        simp only [Rep] at hr ⊢
        exact ⟨hd, hr.2⟩
      · simp [Prog.run] at h
    | eptr x g i o =>
      simp only [escC] at h
      split at h
      · rename_i hd
        simp only [Prog.run, Option.some.injEq, Prod.mk.injEq] at h
        obtain ⟨rfl, rfl⟩ := h
        refine ⟨I, m, G, .refl _ _ _ _ _, ?_⟩
        simp only [Rep] at hr ⊢
        exact ⟨hd, hr.2⟩
      · simp [Prog.run] at h
    | any | agg | tup | vec | bsl | fn => simp [escC, Prog.run] at h
  | succ n ih =>
    intro cap I m hp hp' c v v' u G hr h
    cases v with
    | sc x =>
      simp only [escC, Prog.run, Option.some.injEq, Prod.mk.injEq] at h
      obtain ⟨rfl, rfl⟩ := h
      exact ⟨I, m, G, .refl _ _ _ _ _, by simpa only [Rep] using hr⟩
    | sl f sz rows =>
      simp only [escC, Prog.run, Option.some.injEq, Prod.mk.injEq] at h
      obtain ⟨rfl, rfl⟩ := h
      exact ⟨I, m, G, .refl _ _ _ _ _, by simpa only [Rep] using hr⟩
    | dp c o =>
      simp only [escC, Prog.run, Option.some.injEq, Prod.mk.injEq] at h
      obtain ⟨rfl, rfl⟩ := h
      exact ⟨I, m, G, .refl _ _ _ _ _, by simpa only [Rep] using hr⟩
    | own x g n =>
      simp only [escC] at h
      split at h
      · rename_i hd
        simp only [Prog.run, Option.some.injEq, Prod.mk.injEq] at h
        obtain ⟨rfl, rfl⟩ := h
        refine ⟨I, m, G, .refl _ _ _ _ _, ?_⟩
        simp only [Rep] at hr ⊢
        exact ⟨hd, hr.2⟩
      · obtain ⟨I', m', G', E', R', _⟩ := settle_ok G hr h
        exact ⟨I', m', G', E', R'⟩
    | eptr x g i o =>
      simp only [escC] at h
      split at h
      · rename_i hd
        simp only [Prog.run, Option.some.injEq, Prod.mk.injEq] at h
        obtain ⟨rfl, rfl⟩ := h
        refine ⟨I, m, G, .refl _ _ _ _ _, ?_⟩
        simp only [Rep] at hr ⊢
        exact ⟨hd, hr.2⟩
      · simp [Prog.run] at h
    | fn f caps =>
      simp only [escC] at h
      simp only [Rep] at hr
      obtain ⟨us, rfl, hr⟩ := hr
      obtain ⟨cs, hp1, r1, h2⟩ := run_bind_some h
      simp only [Prog.run, Option.some.injEq, Prod.mk.injEq] at h2
      obtain ⟨rfl, rfl⟩ := h2
      obtain ⟨I', m', G', E', R'⟩ := escL_ok (fun G hr h => ih G hr h) G ((RepL_iff _ _).1 hr) r1
      refine ⟨I', m', G', E', ?_⟩
      simp only [Rep]
      exact ⟨us, rfl, (RepL_iff _ _).2 R'⟩
    | ptr x g o =>
      simp only [escC] at h
      split at h
      · rename_i hd
        simp only [Prog.run, Option.some.injEq, Prod.mk.injEq] at h
        obtain ⟨rfl, rfl⟩ := h
        refine ⟨I, m, G, .refl _ _ _ _ _, ?_⟩
        simp only [Rep] at hr ⊢
        exact ⟨hd, hr.2⟩
      · simp only [Prog.run] at h
        cases hx : hp x with
        | no g' => rw [hx] at h; simp [Prog.run] at h
        | arr g' sz e' rows f => rw [hx] at h; simp [Prog.run] at h
        | box g' cells f =>
          rw [hx] at h
          simp only at h
          split at h
          case isFalse => simp [Prog.run] at h
          rename_i hg
          subst hg
          split at h
          · rename_i hc
            simp only [Bool.and_eq_true] at hc
            have hdat := hc.2
            simp only [Prog.run, Option.some.injEq, Prod.mk.injEq] at h
            obtain ⟨rfl, rfl⟩ := h
            obtain ⟨I', G', E', hb'⟩ := G.freezeBox hx (fun us hus => datL_dat hdat hus)
            have ho := G'.obj x
            rw [upd_same] at ho
            obtain ⟨b, c, us, T, mk, o1, o2, o3, o4, o5, o6⟩ := ho
            have hda := (o5 rfl).2
            simp only [Rep] at hr
            obtain ⟨_, _, hr⟩ := hr
            obtain ⟨b', c', hm, rfl⟩ := hr cells f hx
            rw [o1] at hm; cases hm
            refine ⟨I', m, G', E', ?_⟩
            simp only [Rep, RepD]
            refine ⟨b, 0, us.toList, by simp, (o5 rfl).1, fun j v hv => ?_, hda⟩
            rw [cell_of_row w b (0 + j) us T mk o2]
            simpa using hv
          · split at h
            case isFalse => simp [Prog.run] at h
            rename_i hfz
            subst hfz
            obtain ⟨cs, hp1, r1, h2⟩ := run_bind_some h
            clear h
            have ho := G.obj x
            rw [hx] at ho
            obtain ⟨b, c0, us, T, mk, o1, o2, o3, o4, o5, o6⟩ := ho
            simp only [Rep] at hr
            obtain ⟨hd1, _, hr⟩ := hr
            obtain ⟨b', c', hm, rfl⟩ := hr cells false hx
            rw [o1] at hm; cases hm
            obtain ⟨I1, m1, G1, E1, R1⟩ := escL_ok (fun G hr h => ih G hr h) G (((RepL_iff _ _).1 o4).imp fun a u h => Rep.depth hd1 a u h) r1
            simp only [moveB, Prog.run] at h2
            cases hx1 : hp1 x with
            | no g1 => rw [hx1] at h2; simp [Prog.run] at h2
            | arr g1 sz e' rows f => rw [hx1] at h2; simp [Prog.run] at h2
            | box g1 cells1 f1 =>
              rw [hx1] at h2
              simp only at h2
              split at h2
              case isFalse => simp [Prog.run] at h2
              rename_i hc
              obtain ⟨rfl, rfl, hxy⟩ := hc
              simp only [Prog.run, Option.some.injEq, Prod.mk.injEq, upd_other _ _ (Ne.symm hxy)] at h2
              obtain ⟨rfl, rfl⟩ := h2
              have hst := E1.stable x (by rw [hx1, hx]; rfl)
              rw [hx] at hst
              have hmx : m1 x = some (b, c0) := by rw [hst.1, o1]
              have ho1 := G1.obj x
              rw [hx1] at ho1
              obtain ⟨b1, c1, us1, T1, mk1, q1, q2, q3, q4, q5, q6⟩ := ho1
              rw [hmx] at q1; cases q1
              rw [o2] at q2; cases q2
              obtain ⟨G2, E2⟩ := G1.moveBox hxy hx1 hmx o2 o3 ((RepL_iff _ _).2 R1) (q6 rfl)
              refine ⟨I1, _, G2, E1.trans E2, ?_⟩
              simp only [Rep]
              refine ⟨Nat.le_refl _, by rw [upd_same]; exact Nat.le_refl _, fun cells' fz' hx' => ⟨b, c0, by rw [upd_same]; exact hmx, rfl⟩⟩
    | any | agg | tup | vec | bsl => simp [escC, Prog.run] at h
theorem lowerC_ok {I K : Nat → Prop} {m : Mp} {hp hp' : Hp} {w : World} {k : Nat} (G : Gam I K m hp w) {y : Nm} (hy : y.d = k) {v v' : AV} {u : Value} (hr : Rep (k + 1) I m hp w v u) (h : (lowerC P k y v).run hp = some (v', hp')) :
    ∃ I' m', Sim I' K m' hp' w v' k I m hp w u := escC_ok 6 G hr h
theorem lowerL_ok {K : Nat → Prop} {w : World} {k d : Nat} : ∀ {c : Nat} {as as' : List AV} {us : List Value} {I : Nat → Prop} {m : Mp} {hp hp' : Hp}, Gam I K m hp w → AllR (Rep (k + 1) I m hp w) as us → (lowerL P k d c as).run hp = some (as', hp') →
    ∃ I' m', Gam I' K m' hp' w ∧ Ext I K m hp w I' m' hp' w ∧ AllR (Rep k I' m' hp' w) as' us
  | c, [], as', us, I, m, hp, hp', G, hr, h => by
    simp only [lowerL, Prog.run, Option.some.injEq, Prod.mk.injEq] at h
    obtain ⟨rfl, rfl⟩ := h
    have : us = [] := List.eq_nil_of_length_eq_zero (by rw [← hr.1]; rfl)
    subst this
    exact ⟨I, m, G, .refl _ _ _ _ _, .nil⟩
  | c, a :: as, as', us, I, m, hp, hp', G, hr, h => by
    obtain ⟨u, us', rfl, h1, h2⟩ := hr.cons_inv
    simp only [lowerL] at h
    obtain ⟨v1, hp1, r1, h3⟩ := run_bind_some h
    clear h
    obtain ⟨vs, hp2, r2, h4⟩ := run_bind_some h3
    clear h3
    simp only [Prog.run, Option.some.injEq, Prod.mk.injEq] at h4
    obtain ⟨rfl, rfl⟩ := h4
    obtain ⟨I1, m1, G1, E1, R1⟩ := lowerC_ok G (y := ⟨k, d, c⟩) rfl h1 r1
    obtain ⟨I2, m2, G2, E2, R2⟩ := lowerL_ok G1 (h2.imp fun a u h => Rep.mono E1 _ a u h) r2
    exact ⟨I2, m2, G2, E1.trans E2, .cons (Rep.mono E2 _ _ _ R1) R2⟩
theorem lowerV_ok {I K : Nat → Prop} {m : Mp} {hp hp' : Hp} {w : World} {k d c : Nat} (G : Gam I K m hp w) {v v' : AV} {u : Value} (hr : Rep (k + 1) I m hp w v u) (h : (lowerV P k d c v).run hp = some (v', hp')) :
    ∃ I' m', Sim I' K m' hp' w v' k I m hp w u := by
  unfold lowerV at h
  split at h
  · rename_i cs
    simp only [Rep] at hr
    obtain ⟨us, rfl, hr⟩ := hr
    obtain ⟨vs, hp1, r1, h2⟩ := run_bind_some h
    simp only [Prog.run, Option.some.injEq, Prod.mk.injEq] at h2
    obtain ⟨rfl, rfl⟩ := h2
    obtain ⟨I', m', G', E', R'⟩ := lowerL_ok G ((RepL_iff _ _).1 hr) r1
    refine ⟨I', m', G', E', ?_⟩
    simp only [Rep]
    exact ⟨us, rfl, (RepL_iff _ _).2 R'⟩
  · exact lowerC_ok G (y := ⟨k, d, c⟩) rfl hr h
theorem resultV_ok {I K : Nat → Prop} {m : Mp} {hp hp' : Hp} {w : World} {k : Nat} (G : Gam I K m hp w) {fr : Nat → AV} {a : Act} (hf : ∀ t, Rep k I m hp w (fr t) (a.eval (.tmp t))) {r : ResultVar} {v : AV} (h : (resultV P fr r).run hp = some (v, hp')) :
    hp' = hp ∧ ∃ u, (readRes a.tmps r).run P w = .ok u w ∧ Rep k I m hp w v u := by
  cases r with
  | tmp s =>
    simp only [resultV, Prog.run, Option.some.injEq, Prod.mk.injEq] at h
    obtain ⟨rfl, rfl⟩ := h
    exact ⟨rfl, _, rfl, hf s⟩
  | cell c t =>
    simp only [resultV] at h
    obtain ⟨e0, u', hrun, hrep⟩ := load_ok P G (hf c) h
    obtain ⟨ad, had⟩ := load_ptr P G (hf c) h
    refine ⟨e0, u', ?_, hrep⟩
    have hev : a.tmps.getD c undef = .pointer (some ad) := had
    rw [had] at hrun
    simp only [readRes, hev, asAddr]
    simpa [Instr.loadAt, Instr.sureAddr] using hrun
theorem lowerAll_ok {K : Nat → Prop} {w : World} {k d : Nat} {fr : Nat → AV} {a : Act} : ∀ {c : Nat} {rvs : List ResultVar} {as' : List AV} {I : Nat → Prop} {m : Mp} {hp hp' : Hp}, Gam I K m hp w → (∀ t, Rep (k + 1) I m hp w (fr t) (a.eval (.tmp t))) → (lowerAll P fr k d c rvs).run hp = some (as', hp') →
    ∃ I' m' us, (rvs.mapM (readRes a.tmps)).run P w = .ok us w ∧ Gam I' K m' hp' w ∧ Ext I K m hp w I' m' hp' w ∧ AllR (Rep k I' m' hp' w) as' us ∧ us.length = rvs.length
  | c, [], as', I, m, hp, hp', G, hf, h => by
    simp only [lowerAll, Prog.run, Option.some.injEq, Prod.mk.injEq] at h
    obtain ⟨rfl, rfl⟩ := h
    exact ⟨I, m, [], rfl, G, .refl _ _ _ _ _, .nil, rfl⟩
  | c, r :: rvs, as', I, m, hp, hp', G, hf, h => by
    simp only [lowerAll] at h
    obtain ⟨v0, hp0, r0, h1⟩ := run_bind_some h
    clear h
    obtain ⟨v1, hp1, r1, h2⟩ := run_bind_some h1
    clear h1
    obtain ⟨vs, hp2, r2, h3⟩ := run_bind_some h2
    clear h2
    simp only [Prog.run, Option.some.injEq, Prod.mk.injEq] at h3
    obtain ⟨rfl, rfl⟩ := h3
    obtain ⟨e0, u, hu, hru⟩ := resultV_ok G hf r0
    rw [e0] at r1
    obtain ⟨I1, m1, G1, E1, R1⟩ := lowerV_ok G hru r1
    obtain ⟨I2, m2, us, hus, G2, E2, R2, hl⟩ := lowerAll_ok G1 (fun s => Rep.mono E1 _ _ _ (hf s)) r2
    refine ⟨I2, m2, u :: us, ?_, G2, E1.trans E2, .cons (Rep.mono E2 _ _ _ R1) R2, by simp [hl]⟩
    rw [List.mapM_cons, Sem.run_bind, hu, Result.andThen_ok, Sem.run_bind, hus]
    rfl
theorem lowerRes_ok {I K : Nat → Prop} {m : Mp} {hp hp' : Hp} {w : World} {k d : Nat} (G : Gam I K m hp w) {fr : Nat → AV} {a : Act} (hf : ∀ t, Rep (k + 1) I m hp w (fr t) (a.eval (.tmp t))) {rvs : List ResultVar} {v : AV} (h : (lowerRes P fr k d rvs).run hp = some (v, hp')) :
    ∃ us, (rvs.mapM (readRes a.tmps)).run P w = .ok us w ∧ ∃ I' m', Sim I' K m' hp' w v k I m hp w (retV us) := by
  unfold lowerRes at h
  split at h
  · rename_i r
    obtain ⟨v0, hp0, r0, h1⟩ := run_bind_some h
    obtain ⟨e0, u, hu, hru⟩ := resultV_ok G hf r0
    rw [e0] at h1
    obtain ⟨I1, m1, S⟩ := lowerV_ok G hru h1
    refine ⟨[u], ?_, I1, m1, S⟩
    rw [List.mapM_cons, Sem.run_bind, hu]
    rfl
  · rename_i hne
    obtain ⟨vs, hp1, r1, h2⟩ := run_bind_some h
    simp only [Prog.run, Option.some.injEq, Prod.mk.injEq] at h2
    obtain ⟨rfl, rfl⟩ := h2
    obtain ⟨I1, m1, us, hus, G1, E1, R1, hl⟩ := lowerAll_ok G hf r1
    refine ⟨us, hus, I1, m1, G1, E1, ?_⟩
    have hret : retV us = .tuple ⟨us⟩ := by
      match us, hl with
      | [], _ => rfl
      | [x], hl =>
        exfalso
        match rvs, hl with
        | [r], _ => exact hne r rfl
      | _ :: _ :: _, _ => rfl
    rw [hret]
    simp only [Rep]
    exact ⟨us, rfl, (RepL_iff _ _).2 R1⟩
theorem frame_ok {I : Nat → Prop} {m : Mp} {hp : Hp} {w : World} {k n : Nat} {args : List AV} {us : List Value} (ha : AllR (Rep k I m hp w) args us) (t : Nat) :
    Rep k I m hp w (frame0 args t) (Act.eval { tmps := (⟨us⟩ : Array Value) ++ Array.replicate n undef, defers := [] } (.tmp t)) := by
  by_cases ht : t < us.length
  · have ht' : t < args.length := by rw [ha.1]; exact ht
    have e1 : frame0 args t = args[t] := by simp [frame0, ht']
    have e2 : Act.eval { tmps := (⟨us⟩ : Array Value) ++ Array.replicate n undef, defers := [] } (.tmp t) = us[t] := by
      simp [Act.eval, Array.getElem?_append, ht]
    rw [e1, e2]
    exact ha.2 t _ _ (List.getElem?_eq_getElem ht') (List.getElem?_eq_getElem ht)
  · have ht' : ¬ t < args.length := by rw [ha.1]; exact ht
    have e1 : frame0 args t = .sc undef := by simp only [frame0, List.getD_eq_getElem?_getD]; rw [List.getElem?_eq_none (by omega)]; rfl
    have e2 : Act.eval { tmps := (⟨us⟩ : Array Value) ++ Array.replicate n undef, defers := [] } (.tmp t) = undef := by
      simp only [Act.eval, Array.getD_eq_getD_getElem?, Array.getElem?_append]
      rw [if_neg (by simpa using ht), Array.getElem?_replicate]
      split <;> rfl
    rw [e1, e2]
    simp only [Rep]
theorem evFnH_ok (hm : P.follows .mixedOrders = true) (hE : ELaw P E) {call : Orc} (hC : OrcOk P call) {n f k d : Nat} {fn : Func} (hfn : P.funcs[f]? = some fn) {args : List AV} {v : AV} {hp hp' : Hp} (h : evFnH P E call n fn k d args hp = some (v, hp'))
    {I K : Nat → Prop} {m : Mp} {w : World} {us : List Value} (G : Gam I K m hp w) (ha : AllR (Rep k I m hp w) args us) : Calls P f ⟨us⟩ w (fun e w' => ∃ u, e = .returned u ∧ ∃ I' m', Sim I' K m' hp' w' v k I m hp w u) := by
  unfold evFnH at h
  split at h
  case h_2 => cases h
  rename_i c hb
  split at h
  case isFalse => cases h
  rename_i hc
  simp only [Bool.and_eq_true, beq_iff_eq] at hc
  obtain ⟨hbo, hlen⟩ := hc
  unfold bodyOk at hbo
  rw [hb] at hbo
  simp only [Bool.and_eq_true, decide_eq_true_eq] at hbo
  obtain ⟨⟨hs1, hs2⟩, hs3⟩ := hbo
  have hus : us.length = fn.params.size + fn.nfree := by rw [← ha.1]; exact hlen
  refine calls_of_wp hfn hb ?_
  have S0 : StR (k + 1) fn.ntmps K ⟨I, m, hp, w, []⟩ ⟨frame0 args, hp⟩ { tmps := (⟨us⟩ : Array Value) ++ Array.replicate (fn.ntmps - (⟨us⟩ : Array Value).size) undef, defers := [] } w := by
    refine ⟨I, m, G, .refl _ _ _ _ _, fun t => frame_ok (ha.imp fun a u h => Rep.depth (Nat.le_succ k) a u h) t, ?_, rfl⟩
    simp only [Array.size_append, List.size_toArray, Array.size_replicate]
    omega
  split at h
  · cases h
  · rename_i e st hne hev
    refine evC_ok hm hE hC n c hs1 S0 hev fun a' w' S => ?_
    obtain ⟨I1, m1, G1, E1, hf1, _, hd1⟩ := S
    obtain ⟨us', hrun, I2, m2, G2, E2, R2⟩ := lowerRes_ok G1 hf1 h
    have hfin : a'.defers = [] ∧ ∃ v', (results fn a'.tmps).run P w' = .ok v' w' ∧ ∃ u, Ending.returned v' = .returned u ∧ ∃ I' m', Sim I' K m' hp' w' v k I m hp w u :=
      ⟨hd1, retV us', run_results fn _ us' hrun, retV us', rfl, I2, m2, G2, E1.trans E2, R2⟩
    cases e with
    | normal => exact hfin
    | exit i => exact (hne i rfl).elim
    | ret => exact hfin
  · cases h
theorem evCall_ok (hm : P.follows .mixedOrders = true) (hE : ELaw P E) {X : Orc} (hX : OrcOk P X) : ∀ n, OrcOk P (evCall P E X n)
  | 0 => hX
  | n + 1 => by
    refine ⟨fun f args rs h hok I w us hI hgl ha => ?_, fun k d f args hp v hp' h hok I K m w us G ha => ?_⟩
    · simp only [evCall] at h
      split at h
      · rename_i rs' hx
        cases h
        exact hX.1 f args rs hx hok I w us hI hgl ha
      · split at h
        · rename_i fn hfn
          exact evFn_ok hm hE (evCall_ok hm hE hX n) hfn h hI hgl ha
        · cases h
    · simp only [evCall] at h
      split at h
      · rename_i r hx
        cases h
        exact hX.2 k d f args hp v hp' hx hok I K m w us G ha
      · split at h
        · rename_i fn hfn
          exact evFnH_ok hm hE (evCall_ok hm hE hX n) hfn h G ha
        · cases h
end
end Go.Ab
namespace Go.Ab
open Go
structure Orc.le (c c' : Orc) : Prop where
  dat : ∀ f a r, c.dat f a = some r → c'.dat f a = some r
  hpc : ∀ k d f a hp r, c.hpc k d f a hp = some r → c'.hpc k d f a hp = some r
theorem Orc.le.refl (c : Orc) : c.le c := ⟨fun _ _ _ h => h, fun _ _ _ _ _ _ h => h⟩
theorem Orc.le.trans {a b c : Orc} (h : a.le b) (h' : b.le c) : a.le c := ⟨fun _ _ _ x => h'.dat _ _ _ (h.dat _ _ _ x), fun _ _ _ _ _ _ x => h'.hpc _ _ _ _ _ _ (h.hpc _ _ _ _ _ _ x)⟩
theorem runF_bind {α β : Type} (p : Prog α) (f : α → Prog β) : ∀ (hp : Hp) (R W : List Facet), (p.bind f).runF hp R W = match p.runF hp R W with | some (a, hp', R', W') => (f a).runF hp' R' W' | none => none := by
  induction p with
  | ret a => intro hp R W; rfl
  | get x k ih => intro hp R W; exact ih _ hp _ _
  | put x o k ih => intro hp R W; exact ih _ _ _
  | hdr x k ih => intro hp R W; exact ih _ hp _ _
  | getC x off k ih =>
    intro hp R W
    simp only [Prog.bind, Prog.runF]
    cases cellOf (hp x) off with
    | none => rfl
    | some v => exact ih v hp _ _
  | putC x off v k ih =>
    intro hp R W
    simp only [Prog.bind, Prog.runF]
    cases setCellOf (hp x) off v with
    | none => rfl
    | some o => exact ih _ _ _
  | ext g k ih =>
    intro hp R W
    simp only [Prog.bind, Prog.runF]
    cases g hp with
    | none => rfl
    | some q => exact ih _ _ _ _
  | fail => intro hp R W; rfl
section
variable {P : Program} {E : Cfg} {k : Nat} {call call' : Orc} {all : Array Oper}
theorem callP_mono (hle : call.le call') {d f : Nat} {args : List AV} {hp : Hp} : (∀ r, (callP P E k d call f args).run hp = some r → (callP P E k d call' f args).run hp = some r) ∧
    (∀ R W r, (callP P E k d call f args).runF hp R W = some r → (callP P E k d call' f args).runF hp R W = some r) := by
  unfold callP
  by_cases h1 : okFn P f = true
  · rw [if_pos h1, if_pos h1]
    by_cases h2 : E.hp f = true
    · rw [if_pos h2, if_pos h2]
      constructor
      · intro r h
        simp only [Prog.run] at h ⊢
        cases hg : call.hpc k d f args hp with
        | none => rw [hg] at h; cases h
        | some q => rw [hg] at h; rw [hle.hpc _ _ _ _ _ _ hg]; exact h
      · intro R W r h
        simp only [Prog.runF] at h ⊢
        cases hg : call.hpc k d f args hp with
        | none => rw [hg] at h; cases h
        | some q => rw [hg] at h; rw [hle.hpc _ _ _ _ _ _ hg]; exact h
    · rw [if_neg h2, if_neg h2]
      constructor
      · intro r h
        rw [run_bind] at h ⊢
        cases ha : (argsP P (!flatF P f) (ptys P f) args).run hp with
        | none => rw [ha] at h; cases h
        | some q =>
          rw [ha] at h
          simp only at h ⊢
          cases hd : call.dat f q.1 with
          | none => rw [hd] at h; simp [Prog.run] at h
          | some rs => rw [hd] at h; rw [hle.dat _ _ _ hd]; exact h
      · intro R W r h
        rw [runF_bind] at h ⊢
        cases ha : (argsP P (!flatF P f) (ptys P f) args).runF hp R W with
        | none => rw [ha] at h; cases h
        | some q =>
          rw [ha] at h
          simp only at h ⊢
          cases hd : call.dat f q.1 with
          | none => rw [hd] at h; simp [Prog.runF] at h
          | some rs => rw [hd] at h; rw [hle.dat _ _ _ hd]; exact h
  · rw [if_neg h1, if_neg h1]
    exact ⟨fun _ h => h, fun _ _ _ h => h⟩
theorem evOp_mono (hle : call.le call') {fr : Nat → AV} {o : Oper} {hp : Hp} : (∀ r, (evOp P E k call fr o).run hp = some r → (evOp P E k call' fr o).run hp = some r) ∧
    (∀ R W r, (evOp P E k call fr o).runF hp R W = some r → (evOp P E k call' fr o).runF hp R W = some r) := by
  obtain ⟨dst, op, type, pos, after, guard⟩ := o
  cases op
  case call c =>
    obtain ⟨callee, args, argTypes⟩ := c
    simp only [evOp]
    split
    · exact ⟨fun _ h => h, fun _ _ _ h => h⟩
    · exact ⟨fun _ h => h, fun _ _ _ h => h⟩
    · exact ⟨fun _ h => h, fun _ _ _ h => h⟩
    · exact ⟨fun _ h => h, fun _ _ _ h => h⟩
    · exact ⟨fun _ h => h, fun _ _ _ h => h⟩
    · split
      · exact callP_mono hle
      · exact ⟨fun _ h => h, fun _ _ _ h => h⟩
      · exact ⟨fun _ h => h, fun _ _ _ h => h⟩
    · exact ⟨fun _ h => h, fun _ _ _ h => h⟩
  case makeFunc fn first caps => cases fn <;> exact ⟨fun _ h => h, fun _ _ _ h => h⟩
  all_goals exact ⟨fun _ h => h, fun _ _ _ h => h⟩
theorem evOps_mono (hle : call.le call') : ∀ (os : List Oper) (st : AS) (r : AS), evOps P E k call all os st = some r → evOps P E k call' all os st = some r
  | [], _, _, h => h
  | o :: os, st, r, h => by
    simp only [evOps] at h ⊢
    split at h
    · split at h
      · rename_i v hp hr
        rw [(evOp_mono hle).1 _ hr]
        exact evOps_mono hle os _ r h
      · cases h
    · exact evOps_mono hle os _ r h
    · cases h
theorem stepF_mono (hle : call.le call') {o : Oper} {st : AS} {r : AS × Foot} (h : stepF P E k call all o st = some r) : stepF P E k call' all o st = some r := by
  unfold stepF at h ⊢
  split at h
  · split at h
    · rename_i v hp R W hr
      rw [(evOp_mono hle).2 _ _ _ hr]
      exact h
    · cases h
  · exact h
  · cases h
theorem runDraw_mono (hle : call.le call') : ∀ (os : List Oper) (st : AS) (acc : List Foot) (r : AS × List Foot), runDraw P E k call all os st acc = some r → runDraw P E k call' all os st acc = some r
  | [], _, _, _, h => h
  | o :: os, st, acc, r, h => by
    simp only [runDraw] at h ⊢
    split at h
    · rename_i st' f hs
      rw [stepF_mono hle hs]
      exact runDraw_mono hle os _ _ r h
    · cases h
theorem evRegion_mono (hle : call.le call') {draw : Bool} {st r : AS} (h : evRegion P E k call all draw st = some r) : evRegion P E k call' all draw st = some r := by
  unfold evRegion at h ⊢
  cases draw with
  | true =>
    simp only [if_true] at h ⊢
    split at h
    · rename_i st' fs hr
      rw [runDraw_mono hle _ _ _ _ hr]
      simp only
      split at h
      · rename_i hc; rw [if_pos hc]; exact h
      · rename_i hc
        rw [if_neg hc]
        split at h
        · rename_i st2 fs2 hr2
          rw [runDraw_mono hle _ _ _ _ hr2]
          exact h
        · cases h
    · cases h
  | false =>
    simp only [Bool.false_eq_true, if_false] at h ⊢
    exact evOps_mono hle _ _ _ h
theorem evC_mono (hle : call.le call') : ∀ (n m : Nat), n ≤ m → ∀ (c : Code) (st : AS) (r : Ex × AS), evC P E k call n c st = some r → evC P E k call' m c st = some r
  | 0, _, _, c, st, r, h => by simp [evC] at h
  | n + 1, 0, hnm, _, _, _, _ => by omega
  | n + 1, m + 1, hnm, c, st, r, h => by
    have ih := evC_mono hle n m (by omega)
    cases c with
    | skip => exact h
    | label l => exact h
    | region id ops d =>
      simp only [evC] at h ⊢
      cases hr : evRegion P E k call ops d st with
      | none => rw [hr] at h; cases h
      | some s => rw [hr] at h; rw [evRegion_mono hle hr]; exact h
    | seq x y =>
      simp only [evC] at h ⊢
      split at h
      · rename_i s h1
        rw [ih x st _ h1]
        exact ih y s r h
      · rename_i hne
        rw [ih x st _ h]
        split
        · rename_i s hs
          simp only [Option.some.injEq] at hs
          subst hs
          exact (hne s h).elim
        · rfl
    | cond c x y =>
      simp only [evC] at h ⊢
      split at h
      · split at h
        · rename_i ht; rw [if_pos ht]; exact ih x st r h
        · rename_i ht; rw [if_neg ht]; exact ih y st r h
      · cases h
    | block id x =>
      simp only [evC] at h ⊢
      split at h
      · rename_i i s h1
        rw [ih x st _ h1]
        exact h
      · rename_i hne
        rw [ih x st _ h]
        split
        · rename_i i s hs
          simp only [Option.some.injEq] at hs
          subst hs
          exact (hne i s h).elim
        · rfl
    | loop x =>
      simp only [evC] at h ⊢
      split at h
      · rename_i s h1
        rw [ih x st _ h1]
        exact ih (.loop x) s r h
      · rename_i hne
        rw [ih x st _ h]
        split
        · rename_i s hs
          simp only [Option.some.injEq] at hs
          subst hs
          exact (hne s h).elim
        · rfl
    | exit id => exact h
    | ret => exact h
    | _ => simp [evC] at h
theorem evFn_mono (hle : call.le call') {n m : Nat} (hnm : n ≤ m) {fn : Func} {args rs : List AV} (h : evFn P E call n fn args = some rs) : evFn P E call' m fn args = some rs := by
  unfold evFn at h ⊢
  split at h
  · split at h
    · rename_i hc
      rw [if_pos hc]
      split at h
      · cases h
      · rename_i e st hne hev
        rw [evC_mono hle n m hnm _ _ _ hev]
        cases e with
        | exit i => exact (hne i rfl).elim
        | normal => exact h
        | ret => exact h
      · cases h
    · cases h
  · cases h
theorem evFnH_mono (hle : call.le call') {n m : Nat} (hnm : n ≤ m) {fn : Func} {d : Nat} {args : List AV} {hp : Hp} {r : AV × Hp} (h : evFnH P E call n fn k d args hp = some r) : evFnH P E call' m fn k d args hp = some r := by
  unfold evFnH at h ⊢
  split at h
  · split at h
    · rename_i hc
      rw [if_pos hc]
      split at h
      · cases h
      · rename_i e st hne hev
        rw [evC_mono hle n m hnm _ _ _ hev]
        cases e with
        | exit i => exact (hne i rfl).elim
        | normal => exact h
        | ret => exact h
      · cases h
    · cases h
  · cases h
theorem evCall_succ (X : Orc) : ∀ n, (evCall P E X n).le (evCall P E X (n + 1))
  | 0 => ⟨fun f a r h => by simp only [evCall] at h ⊢; rw [h], fun k d f a hp r h => by simp only [evCall] at h ⊢; rw [h]⟩
  | n + 1 => by
    have ih := evCall_succ X n
    constructor
    · intro f a r h
      rw [evCall] at h ⊢
      simp only at h ⊢
      split at h
      · rename_i rs hx; exact h
      · rename_i hx
        split at h
        · exact evFn_mono ih (Nat.le_succ n) h
        · cases h
    · intro k d f a hp r h
      rw [evCall] at h ⊢
      simp only at h ⊢
      split at h
      · rename_i rs hx; exact h
      · rename_i hx
        split at h
        · exact evFnH_mono ih (Nat.le_succ n) h
        · cases h
theorem evCall_le (X : Orc) {n m : Nat} (h : n ≤ m) : (evCall P E X n).le (evCall P E X m) := by
  induction m with
  | zero => have : n = 0 := by omega
            subst this; exact .refl _
  | succ m ih =>
    by_cases e : n = m + 1
    · subst e; exact .refl _
    · exact (ih (by omega)).trans (evCall_succ X m)
end
end Go.Ab
namespace Go.Ab
open Go
open Classical in
noncomputable def lim (P : Program) (E : Cfg) (X : Orc) : Orc where
  dat := fun f a => if h : ∃ r n, (evCall P E X n).dat f a = some r then some (Classical.choose h) else none
  hpc := fun k d f a hp => if h : ∃ r n, (evCall P E X n).hpc k d f a hp = some r then some (Classical.choose h) else none
section
variable {P : Program} {E : Cfg} {X : Orc} {k : Nat} {all : Array Oper}
theorem lim_dat {f : Nat} {a : List AV} {r : List AV} : (lim P E X).dat f a = some r ↔ ∃ n, (evCall P E X n).dat f a = some r := by
  simp only [lim]
  constructor
  · intro h
    split at h
    · rename_i hex
      have := Classical.choose_spec hex
      simp only [Option.some.injEq] at h
      rw [h] at this
      exact this
    · cases h
  · rintro ⟨n, h⟩
    have hex : ∃ r n, (evCall P E X n).dat f a = some r := ⟨r, n, h⟩
    rw [dif_pos hex]
    obtain ⟨m, hm⟩ := Classical.choose_spec hex
    have h1 := (evCall_le X (Nat.le_max_left n m)).dat _ _ _ h
    have h2 := (evCall_le X (Nat.le_max_right n m)).dat _ _ _ hm
    rw [h1] at h2
    exact h2.symm
theorem lim_hpc {d f : Nat} {a : List AV} {hp : Hp} {r : AV × Hp} : (lim P E X).hpc k d f a hp = some r ↔ ∃ n, (evCall P E X n).hpc k d f a hp = some r := by
  simp only [lim]
  constructor
  · intro h
    split at h
    · rename_i hex
      have := Classical.choose_spec hex
      simp only [Option.some.injEq] at h
      rw [h] at this
      exact this
    · cases h
  · rintro ⟨n, h⟩
    have hex : ∃ r n, (evCall P E X n).hpc k d f a hp = some r := ⟨r, n, h⟩
    rw [dif_pos hex]
    obtain ⟨m, hm⟩ := Classical.choose_spec hex
    have h1 := (evCall_le X (Nat.le_max_left n m)).hpc _ _ _ _ _ _ h
    have h2 := (evCall_le X (Nat.le_max_right n m)).hpc _ _ _ _ _ _ hm
    rw [h1] at h2
    exact h2.symm
theorem lim_ok (hm : P.follows .mixedOrders = true) (hE : ELaw P E) (hX : OrcOk P X) : OrcOk P (lim P E X) := by
  refine ⟨fun f args rs h => ?_, fun k d f args hp v hp' h => ?_⟩
  · obtain ⟨n, h⟩ := lim_dat.1 h
    exact (evCall_ok hm hE hX n).1 f args rs h
  · obtain ⟨n, h⟩ := lim_hpc.1 h
    exact (evCall_ok hm hE hX n).2 k d f args hp v hp' h
variable {E' : Cfg}
theorem callP_lim {d f : Nat} {args : List AV} {hp : Hp} : (∀ r, (callP P E' k d (lim P E X) f args).run hp = some r → ∃ n, (callP P E' k d (evCall P E X n) f args).run hp = some r) ∧
    (∀ R W r, (callP P E' k d (lim P E X) f args).runF hp R W = some r → ∃ n, (callP P E' k d (evCall P E X n) f args).runF hp R W = some r) := by
  unfold callP
  by_cases h1 : okFn P f = true
  · simp only [if_pos h1]
    by_cases h2 : E'.hp f = true
    · simp only [if_pos h2]
      constructor
      · intro r h
        simp only [Prog.run] at h ⊢
        cases hg : (lim P E X).hpc k d f args hp with
        | none => rw [hg] at h; cases h
        | some q =>
          obtain ⟨n, hn⟩ := lim_hpc.1 hg
          rw [hg] at h
          exact ⟨n, by rw [hn]; exact h⟩
      · intro R W r h
        simp only [Prog.runF] at h ⊢
        cases hg : (lim P E X).hpc k d f args hp with
        | none => rw [hg] at h; cases h
        | some q =>
          obtain ⟨n, hn⟩ := lim_hpc.1 hg
          rw [hg] at h
          exact ⟨n, by rw [hn]; exact h⟩
    · simp only [if_neg h2]
      constructor
      · intro r h
        simp only [run_bind] at h ⊢
        cases ha : (argsP P (!flatF P f) (ptys P f) args).run hp with
        | none => rw [ha] at h; cases h
        | some q =>
          rw [ha] at h
          simp only at h ⊢
          cases hd : (lim P E X).dat f q.1 with
          | none => rw [hd] at h; simp [Prog.run] at h
          | some rs =>
            obtain ⟨n, hn⟩ := lim_dat.1 hd
            rw [hd] at h
            exact ⟨n, by rw [hn]; exact h⟩
      · intro R W r h
        simp only [runF_bind] at h ⊢
        cases ha : (argsP P (!flatF P f) (ptys P f) args).runF hp R W with
        | none => rw [ha] at h; cases h
        | some q =>
          rw [ha] at h
          simp only at h ⊢
          cases hd : (lim P E X).dat f q.1 with
          | none => rw [hd] at h; simp [Prog.runF] at h
          | some rs =>
            obtain ⟨n, hn⟩ := lim_dat.1 hd
            rw [hd] at h
            exact ⟨n, by rw [hn]; exact h⟩
  · simp only [if_neg h1]
    exact ⟨fun _ h => ⟨0, h⟩, fun _ _ _ h => ⟨0, h⟩⟩
theorem evOp_lim {fr : Nat → AV} {o : Oper} {hp : Hp} : (∀ r, (evOp P E' k (lim P E X) fr o).run hp = some r → ∃ n, (evOp P E' k (evCall P E X n) fr o).run hp = some r) ∧
    (∀ R W r, (evOp P E' k (lim P E X) fr o).runF hp R W = some r → ∃ n, (evOp P E' k (evCall P E X n) fr o).runF hp R W = some r) := by
  obtain ⟨dst, op, type, pos, after, guard⟩ := o
  cases op
  case call c =>
    obtain ⟨callee, args, argTypes⟩ := c
    simp only [evOp]
    split
    · exact ⟨fun _ h => ⟨0, h⟩, fun _ _ _ h => ⟨0, h⟩⟩
    · exact ⟨fun _ h => ⟨0, h⟩, fun _ _ _ h => ⟨0, h⟩⟩
    · exact ⟨fun _ h => ⟨0, h⟩, fun _ _ _ h => ⟨0, h⟩⟩
    · exact ⟨fun _ h => ⟨0, h⟩, fun _ _ _ h => ⟨0, h⟩⟩
    · exact ⟨fun _ h => ⟨0, h⟩, fun _ _ _ h => ⟨0, h⟩⟩
    · split
      · exact callP_lim
      · exact ⟨fun _ h => ⟨0, h⟩, fun _ _ _ h => ⟨0, h⟩⟩
      · exact ⟨fun _ h => ⟨0, h⟩, fun _ _ _ h => ⟨0, h⟩⟩
    · exact ⟨fun _ h => ⟨0, h⟩, fun _ _ _ h => ⟨0, h⟩⟩
  case makeFunc fn first caps => cases fn <;> exact ⟨fun _ h => ⟨0, h⟩, fun _ _ _ h => ⟨0, h⟩⟩
  all_goals exact ⟨fun _ h => ⟨0, h⟩, fun _ _ _ h => ⟨0, h⟩⟩
theorem evOps_lim : ∀ (os : List Oper) (st : AS) (r : AS), evOps P E' k (lim P E X) all os st = some r → ∃ n, evOps P E' k (evCall P E X n) all os st = some r
  | [], _, _, h => ⟨0, h⟩
  | o :: os, st, r, h => by
    simp only [evOps] at h ⊢
    split at h
    · split at h
      · rename_i v hp hr
        obtain ⟨n, hn⟩ := evOp_lim.1 _ hr
        obtain ⟨m, hm⟩ := evOps_lim os _ r h
        refine ⟨max n m, ?_⟩
        rw [(evOp_mono (evCall_le X (Nat.le_max_left n m))).1 _ hn]
        exact evOps_mono (evCall_le X (Nat.le_max_right n m)) _ _ _ hm
      · cases h
    · exact evOps_lim os _ r h
    · cases h
theorem stepF_lim {o : Oper} {st : AS} {r : AS × Foot} (h : stepF P E' k (lim P E X) all o st = some r) : ∃ n, stepF P E' k (evCall P E X n) all o st = some r := by
  unfold stepF at h ⊢
  split at h
  · split at h
    · rename_i v hp R W hr
      obtain ⟨n, hn⟩ := evOp_lim.2 _ _ _ hr
      exact ⟨n, by rw [hn]; exact h⟩
    · cases h
  · exact ⟨0, h⟩
  · cases h
theorem runDraw_lim : ∀ (os : List Oper) (st : AS) (acc : List Foot) (r : AS × List Foot), runDraw P E' k (lim P E X) all os st acc = some r → ∃ n, runDraw P E' k (evCall P E X n) all os st acc = some r
  | [], _, _, _, h => ⟨0, h⟩
  | o :: os, st, acc, r, h => by
    simp only [runDraw] at h ⊢
    split at h
    · rename_i st' f hs
      obtain ⟨n, hn⟩ := stepF_lim hs
      obtain ⟨m, hm⟩ := runDraw_lim os _ _ r h
      refine ⟨max n m, ?_⟩
      rw [stepF_mono (evCall_le X (Nat.le_max_left n m)) hn]
      exact runDraw_mono (evCall_le X (Nat.le_max_right n m)) _ _ _ _ hm
    · cases h
theorem evRegion_lim {draw : Bool} {st r : AS} (h : evRegion P E' k (lim P E X) all draw st = some r) : ∃ n, evRegion P E' k (evCall P E X n) all draw st = some r := by
  unfold evRegion at h ⊢
  cases draw with
  | true =>
    simp only [if_true] at h ⊢
    split at h
    · rename_i st' fs hr
      obtain ⟨n, hn⟩ := runDraw_lim _ _ _ _ hr
      split at h
      · rename_i hc; exact ⟨n, by rw [hn]; simp only; rw [if_pos hc]; exact h⟩
      · rename_i hc
        split at h
        · rename_i st2 fs2 hr2
          obtain ⟨n2, hn2⟩ := runDraw_lim _ _ _ _ hr2
          refine ⟨max n n2, ?_⟩
          rw [runDraw_mono (evCall_le X (Nat.le_max_left n n2)) _ _ _ _ hn]
          simp only
          rw [if_neg hc, runDraw_mono (evCall_le X (Nat.le_max_right n n2)) _ _ _ _ hn2]
          exact h
        · cases h
    · cases h
  | false =>
    simp only [Bool.false_eq_true, if_false] at h ⊢
    exact evOps_lim _ _ _ h
theorem evC_lim : ∀ (g : Nat) (c : Code) (st : AS) (r : Ex × AS), evC P E' k (lim P E X) g c st = some r → ∃ n, evC P E' k (evCall P E X n) g c st = some r
  | 0, c, st, r, h => by simp [evC] at h
  | g + 1, c, st, r, h => by
    have ih := evC_lim g
    have up : ∀ {n m : Nat} {c : Code} {st : AS} {r : Ex × AS}, n ≤ m → evC P E' k (evCall P E X n) g c st = some r → evC P E' k (evCall P E X m) g c st = some r := fun hnm h => evC_mono (evCall_le X hnm) g g (Nat.le_refl _) _ _ _ h
    cases c with
    | skip => exact ⟨0, h⟩
    | label l => exact ⟨0, h⟩
    | region id ops d =>
      simp only [evC] at h ⊢
      cases hr : evRegion P E' k (lim P E X) ops d st with
      | none => rw [hr] at h; cases h
      | some s =>
        obtain ⟨n, hn⟩ := evRegion_lim hr
        rw [hr] at h
        exact ⟨n, by rw [hn]; exact h⟩
    | seq x y =>
      simp only [evC] at h ⊢
      split at h
      · rename_i s h1
        obtain ⟨n, hn⟩ := ih x st _ h1
        obtain ⟨m, hm⟩ := ih y s r h
        exact ⟨max n m, by rw [up (Nat.le_max_left n m) hn]; exact up (Nat.le_max_right n m) hm⟩
      · rename_i hne
        obtain ⟨n, hn⟩ := ih x st _ h
        refine ⟨n, ?_⟩
        rw [hn]
        split
        · rename_i s hs
          simp only [Option.some.injEq] at hs
          subst hs
          exact (hne s h).elim
        · rfl
    | cond c x y =>
      simp only [evC] at h ⊢
      split at h
      · rename_i t hc
        cases t with
        | true => simp only [if_true] at h ⊢; exact ih x st r h
        | false => simp only [Bool.false_eq_true, if_false] at h ⊢; exact ih y st r h
      · cases h
    | block id x =>
      simp only [evC] at h ⊢
      split at h
      · rename_i i s h1
        obtain ⟨n, hn⟩ := ih x st _ h1
        exact ⟨n, by rw [hn]; exact h⟩
      · rename_i hne
        obtain ⟨n, hn⟩ := ih x st _ h
        refine ⟨n, ?_⟩
        rw [hn]
        split
        · rename_i i s hs
          simp only [Option.some.injEq] at hs
          subst hs
          exact (hne i s h).elim
        · rfl
    | loop x =>
      simp only [evC] at h ⊢
      split at h
      · rename_i s h1
        obtain ⟨n, hn⟩ := ih x st _ h1
        obtain ⟨m, hm⟩ := ih (.loop x) s r h
        exact ⟨max n m, by rw [up (Nat.le_max_left n m) hn]; exact up (Nat.le_max_right n m) hm⟩
      · rename_i hne
        obtain ⟨n, hn⟩ := ih x st _ h
        refine ⟨n, ?_⟩
        rw [hn]
        split
        · rename_i s hs
          simp only [Option.some.injEq] at hs
          subst hs
          exact (hne s h).elim
        · rfl
    | exit id => exact ⟨0, h⟩
    | ret => exact ⟨0, h⟩
    | _ => simp [evC] at h
theorem lim_fn {f n : Nat} {fn : Func} {args rs : List AV} (hf : P.funcs[f]? = some fn) (hx : X.dat f args = none) (h : evFn P E (lim P E X) n fn args = some rs) : (lim P E X).dat f args = some rs := by
  have h0 : ∃ m, evFn P E (evCall P E X m) n fn args = some rs := by
    unfold evFn at h ⊢
    cases hb : fn.body with
    | none => rw [hb] at h; cases h
    | some c =>
      rw [hb] at h
      simp only at h ⊢
      split at h
      · rename_i hc
        simp only [hc, if_true]
        split at h
        · cases h
        · rename_i e st hne hev
          obtain ⟨m, hm⟩ := evC_lim _ _ _ _ hev
          refine ⟨m, ?_⟩
          rw [hm]
          cases e with
          | exit i => exact (hne i rfl).elim
          | normal => exact h
          | ret => exact h
        · cases h
      · cases h
  obtain ⟨m, hm⟩ := h0
  refine lim_dat.2 ⟨max n m + 1, ?_⟩
  rw [evCall]
  simp only
  rw [hx, hf]
  exact evFn_mono (evCall_le X (Nat.le_max_right n m)) (Nat.le_max_left n m) hm
theorem lim_fnH {f n d : Nat} {fn : Func} {args : List AV} {hp : Hp} {r : AV × Hp} (hf : P.funcs[f]? = some fn) (hx : X.hpc k d f args hp = none) (h : evFnH P E (lim P E X) n fn k d args hp = some r) : (lim P E X).hpc k d f args hp = some r := by
  have h0 : ∃ m, evFnH P E (evCall P E X m) n fn k d args hp = some r := by
    unfold evFnH at h ⊢
    cases hb : fn.body with
    | none => rw [hb] at h; cases h
    | some c =>
      rw [hb] at h
      simp only at h ⊢
      split at h
      · rename_i hc
        simp only [hc, if_true]
        split at h
        · cases h
        · rename_i e st hne hev
          obtain ⟨m, hm⟩ := evC_lim _ _ _ _ hev
          refine ⟨m, ?_⟩
          rw [hm]
          cases e with
          | exit i => exact (hne i rfl).elim
          | normal => exact h
          | ret => exact h
        · cases h
      · cases h
  obtain ⟨m, hm⟩ := h0
  refine lim_hpc.2 ⟨max n m + 1, ?_⟩
  rw [evCall]
  simp only
  rw [hx, hf]
  exact evFnH_mono (evCall_le X (Nat.le_max_right n m)) (Nat.le_max_left n m) hm
end
end Go.Ab
namespace Go.Ab
open Go
def W (P : Program) (E : Cfg) (k : Nat) (call : Orc) (c : Code) (st : AS) (Q : Ex → AS → Prop) : Prop := ∃ n e st', evC P E k call n c st = some (e, st') ∧ Q e st'
def Wo (P : Program) (E : Cfg) (k : Nat) (call : Orc) (all : Array Oper) (os : List Oper) (st : AS) (Q : AS → Prop) : Prop := ∃ st', evOps P E k call all os st = some st' ∧ Q st'
def Wp {α : Type} (p : Prog α) (hp : Hp) (Q : α → Hp → Prop) : Prop := ∃ v hp', p.run hp = some (v, hp') ∧ Q v hp'
section
variable {P : Program} {E : Cfg} {k : Nat} {call : Orc}
theorem W.mono {c : Code} {st : AS} {Q Q' : Ex → AS → Prop} (h : W P E k call c st Q) (hq : ∀ e s, Q e s → Q' e s) : W P E k call c st Q' := by
  obtain ⟨n, e, s, h1, h2⟩ := h
  exact ⟨n, e, s, h1, hq _ _ h2⟩
theorem W_skip {st : AS} {Q : Ex → AS → Prop} (h : Q .normal st) : W P E k call .skip st Q := ⟨1, _, _, rfl, h⟩
theorem W_exit {id : Nat} {st : AS} {Q : Ex → AS → Prop} (h : Q (.exit id) st) : W P E k call (.exit id) st Q := ⟨1, _, _, rfl, h⟩
theorem W_ret {st : AS} {Q : Ex → AS → Prop} (h : Q .ret st) : W P E k call .ret st Q := ⟨1, _, _, rfl, h⟩
theorem W_region {id : Nat} {ops : Array Oper} {st : AS} {Q : Ex → AS → Prop} (h : Wo P E k call ops ops.toList st (Q .normal)) : W P E k call (.region id ops false) st Q := by
  obtain ⟨st', h1, h2⟩ := h
  exact ⟨1, _, st', by simp [evC, evRegion, h1], h2⟩
def thenW (N : AS → Prop) (Q : Ex → AS → Prop) : Ex → AS → Prop
  | .normal, s => N s
  | e, s => Q e s
theorem W_seq {a b : Code} {st : AS} {Q : Ex → AS → Prop} (h : W P E k call a st (thenW (fun s => W P E k call b s Q) Q)) : W P E k call (.seq a b) st Q := by
  obtain ⟨n, e, s, h1, h2⟩ := h
  cases e with
  | normal =>
    obtain ⟨m, e', s', h3, h4⟩ := h2
    refine ⟨max n m + 1, e', s', ?_, h4⟩
    simp only [evC]
    rw [evC_mono (.refl call) n (max n m) (Nat.le_max_left ..) _ _ _ h1]
    exact evC_mono (.refl call) m (max n m) (Nat.le_max_right ..) _ _ _ h3
  | exit i => exact ⟨n + 1, .exit i, s, by simp only [evC]; rw [h1], h2⟩
  | ret => exact ⟨n + 1, .ret, s, by simp only [evC]; rw [h1], h2⟩
theorem W_cond {c : Operand} {a b : Code} {st : AS} {Q : Ex → AS → Prop} {t : Bool} (hc : opA st.fr c = .sc (.bool t)) (h : W P E k call (if t then a else b) st Q) : W P E k call (.cond c a b) st Q := by
  obtain ⟨n, e, s, h1, h2⟩ := h
  refine ⟨n + 1, e, s, ?_, h2⟩
  simp only [evC, hc]
  cases t <;> simpa using h1
def inBlockW (id : Nat) (Q : Ex → AS → Prop) : Ex → AS → Prop
  | .exit i, s => if i = id then Q .normal s else Q (.exit i) s
  | e, s => Q e s
theorem W_block {id : Nat} {c : Code} {st : AS} {Q : Ex → AS → Prop} (h : W P E k call c st (inBlockW id Q)) : W P E k call (.block id c) st Q := by
  obtain ⟨n, e, s, h1, h2⟩ := h
  cases e with
  | normal => exact ⟨n + 1, .normal, s, by simp only [evC]; rw [h1], h2⟩
  | ret => exact ⟨n + 1, .ret, s, by simp only [evC]; rw [h1], h2⟩
  | exit i =>
    by_cases hi : i = id
    · simp only [inBlockW, hi, if_true] at h2
      exact ⟨n + 1, .normal, s, by simp only [evC]; rw [h1]; simp [hi], h2⟩
    · simp only [inBlockW, hi, if_false] at h2
      exact ⟨n + 1, .exit i, s, by simp only [evC]; rw [h1]; simp [hi], h2⟩
theorem W_loop {c : Code} {st : AS} {Q : Ex → AS → Prop} (I : Nat → AS → Prop) {n : Nat} (h0 : I n st) (round : ∀ n s, I n s → W P E k call c s (thenW (fun s' => ∃ m, m < n ∧ I m s') Q)) : W P E k call (.loop c) st Q := by
  induction n using Nat.strongRecOn generalizing st with
  | _ n ih =>
    obtain ⟨f, e, s, h1, h2⟩ := round n st h0
    cases e with
    | normal =>
      obtain ⟨m, hm, hI⟩ := h2
      obtain ⟨g, e', s', h3, h4⟩ := ih m hm hI
      refine ⟨max f g + 1, e', s', ?_, h4⟩
      simp only [evC]
      rw [evC_mono (.refl call) f (max f g) (Nat.le_max_left ..) _ _ _ h1]
      exact evC_mono (.refl call) g (max f g) (Nat.le_max_right ..) _ _ _ h3
    | exit i => exact ⟨f + 1, .exit i, s, by simp only [evC]; rw [h1], h2⟩
    | ret => exact ⟨f + 1, .ret, s, by simp only [evC]; rw [h1], h2⟩
theorem Wo_nil {all : Array Oper} {st : AS} {Q : AS → Prop} (h : Q st) : Wo P E k call all [] st Q := ⟨st, rfl, h⟩
section
variable {α β : Type} {hp : Hp}
end
theorem fn_of {X : Orc} {f : Nat} {fn : Func} {c : Code} {args rs : List AV} (hf : P.funcs[f]? = some fn) (hx : X.dat f args = none) (hb : fn.body = some c) (hok : bodyOk fn = true) (hl : args.length = fn.params.size + fn.nfree)
    (h : W P E 0 (lim P E X) c ⟨frame0 args, hp0⟩ fun e st => (∀ i, e ≠ .exit i) ∧ Wp (resultsP P st.fr fn.resultTypes.toList fn.results.toList) st.hp fun v _ => v = rs) : (lim P E X).dat f args = some rs := by
  obtain ⟨n, e, st, h1, hne, v, hp', h2, rfl⟩ := h
  refine lim_fn (n := n) hf hx ?_
  unfold evFn
  rw [hb]
  simp only [hok, hl, beq_self_eq_true, Bool.and_self, if_true]
  rw [h1]
  cases e with
  | exit i => exact (hne i rfl).elim
  | normal => simp [h2]
  | ret => simp [h2]
def EndQ (P : Program) (ts : List TypeId) (rvs : List ResultVar) (R : List AV → Prop) : Ex → AS → Prop
  | .exit _, _ => False
  | _, st => ∃ rs hp', (resultsP P st.fr ts rvs).run st.hp = some (rs, hp') ∧ R rs
theorem EndQ_ret {ts : List TypeId} {rvs : List ResultVar} {R : List AV → Prop} {st : AS} {rs : List AV} {hp' : Hp} (h : (resultsP P st.fr ts rvs).run st.hp = some (rs, hp')) (hr : R rs) : EndQ P ts rvs R .ret st := ⟨rs, hp', h, hr⟩
theorem EndQ_normal {ts : List TypeId} {rvs : List ResultVar} {R : List AV → Prop} {st : AS} {rs : List AV} {hp' : Hp} (h : (resultsP P st.fr ts rvs).run st.hp = some (rs, hp')) (hr : R rs) : EndQ P ts rvs R .normal st := ⟨rs, hp', h, hr⟩
theorem fnW {X : Orc} {f : Nat} {fn : Func} {c : Code} {args rs : List AV} {ts : List TypeId} {rvs : List ResultVar} (hf : P.funcs[f]? = some fn) (hx : X.dat f args = none) (hb : fn.body = some c) (hok : bodyOk fn = true) (hl : args.length = fn.params.size + fn.nfree)
    (ht : rtys P f = ts) (hrv : fn.results.toList = rvs) (h : W P E 0 (lim P E X) c ⟨frame0 args, hp0⟩ (EndQ P ts rvs (· = rs))) : (lim P E X).dat f args = some rs := by
  refine fn_of hf hx hb hok hl (h.mono fun e st hq => ?_)
  have ht : fn.resultTypes.toList = ts := by rw [← ht]; simp [rtys, hf]
  subst ht hrv
  cases e with
  | exit i => exact hq.elim
  | normal => obtain ⟨rs', hp', h1, h2⟩ := hq; exact ⟨fun i => nofun, rs', hp', h1, h2⟩
  | ret => obtain ⟨rs', hp', h1, h2⟩ := hq; exact ⟨fun i => nofun, rs', hp', h1, h2⟩
end
/-! ### rules for code in sequence -/
section
variable {P : Program} {E : Cfg} {k : Nat} {call : Orc} {a b c d : Code} {st st' : AS} {Q : Ex → AS → Prop} {id : Nat} {ops : Array Oper} {fs : List Foot}
theorem W_r (h : evOps P E k call ops ops.toList st = some st') (hq : Q .normal st') : W P E k call (.region id ops false) st Q := W_region ⟨st', h, hq⟩
theorem W_rd (h : runDraw P E.dry k call ops ops.toList st [] = some (st', fs)) (hs : drawS ops = true) (hf : drawF ops fs = true) (hq : Q .normal st') : W P E k call (.region id ops true) st Q :=
  ⟨1, _, st', by simp [evC, evRegion, h, hs, hf], hq⟩
theorem W_sr (h : evOps P E k call ops ops.toList st = some st') (hb : W P E k call b st' Q) : W P E k call (.seq (.region id ops false) b) st Q := W_seq (W_r h hb)
theorem W_srd (h : runDraw P E.dry k call ops ops.toList st [] = some (st', fs)) (hs : drawS ops = true) (hf : drawF ops fs = true) (hb : W P E k call b st' Q) : W P E k call (.seq (.region id ops true) b) st Q := W_seq (W_rd h hs hf hb)
theorem W_seq_inv (h : W P E k call (.seq a b) st Q) : W P E k call a st (thenW (fun s => W P E k call b s Q) Q) := by
  obtain ⟨n, e, s, h1, h2⟩ := h
  cases n with
  | zero => simp [evC] at h1
  | succ n =>
    simp only [evC] at h1
    cases ha : evC P E k call n a st with
    | none => rw [ha] at h1; cases h1
    | some r =>
      obtain ⟨ea, sa⟩ := r
      rw [ha] at h1
      refine ⟨n, ea, sa, ha, ?_⟩
      cases ea with
      | normal => exact ⟨n, e, s, h1, h2⟩
      | exit i => cases h1; exact h2
      | ret => cases h1; exact h2
theorem W_ss (h : W P E k call (.seq a (.seq b c)) st Q) : W P E k call (.seq (.seq a b) c) st Q := by
  refine W_seq (W_seq ((W_seq_inv h).mono fun e s hs => ?_))
  cases e with
  | normal => exact (W_seq_inv hs).mono fun e s hs => by cases e <;> exact hs
  | exit i => exact hs
  | ret => exact hs
theorem W_sc {x : Operand} {t : Bool} (hc : opA st.fr x = .sc (.bool t)) (h1 : t = true → t = true → W P E k call (.seq a d) st Q) (h2 : t = false → t = false → W P E k call (.seq b d) st Q) : W P E k call (.seq (.cond x a b) d) st Q := by
  refine W_seq (W_cond hc ?_)
  cases t with
  | true => exact W_seq_inv (h1 rfl rfl)
  | false => exact W_seq_inv (h2 rfl rfl)
theorem W_c {x : Operand} {t : Bool} (hc : opA st.fr x = .sc (.bool t)) (h1 : t = true → t = true → W P E k call a st Q) (h2 : t = false → t = false → W P E k call b st Q) : W P E k call (.cond x a b) st Q := by
  refine W_cond hc ?_
  cases t with
  | true => exact h1 rfl rfl
  | false => exact h2 rfl rfl
theorem W_sskip (h : W P E k call b st Q) : W P E k call (.seq .skip b) st Q := W_seq (W_skip h)
theorem W_sret (h : Q .ret st) : W P E k call (.seq .ret b) st Q := W_seq (W_ret h)
theorem W_sexit (h : Q (.exit id) st) : W P E k call (.seq (.exit id) b) st Q := W_seq (W_exit h)
theorem W_sblock (h : W P E k call a st (inBlockW id (thenW (fun s => W P E k call b s Q) Q))) : W P E k call (.seq (.block id a) b) st Q := W_seq (W_block h)
end
theorem W_loopS {P : Program} {E : Cfg} {k : Nat} {call : Orc} {c : Code} {st : AS} {Q : Ex → AS → Prop} (I : AS → Nat → AS → Prop) {n : Nat} (h0 : I st n st) (round : ∀ n s, I st n s → W P E k call c s (thenW (fun s' => ∃ m, m < n ∧ I st m s') Q)) : W P E k call (.loop c) st Q :=
  W_loop (I st) h0 round
theorem W_unroll {P : Program} {E : Cfg} {k : Nat} {call : Orc} {c : Code} {st : AS} {Q : Ex → AS → Prop} (h : W P E k call c st (thenW (fun s => W P E k call (.loop c) s Q) Q)) : W P E k call (.loop c) st Q := by
  obtain ⟨n, e, s, h1, h2⟩ := h
  cases e with
  | normal =>
    obtain ⟨m, e', s', h3, h4⟩ := h2
    refine ⟨max n m + 1, e', s', ?_, h4⟩
    simp only [evC]
    rw [evC_mono (.refl call) n (max n m) (Nat.le_max_left ..) _ _ _ h1]
    exact evC_mono (.refl call) m (max n m) (Nat.le_max_right ..) _ _ _ h3
  | exit i => exact ⟨n + 1, .exit i, s, by simp only [evC]; rw [h1], h2⟩
  | ret => exact ⟨n + 1, .ret, s, by simp only [evC]; rw [h1], h2⟩
theorem lim_hpcW {P : Program} {E : Cfg} {X : Orc} {f k d : Nat} {fn : Func} {c : Code} {args : List AV} {hp : Hp} {rvs : List ResultVar} {R : AV → Hp → Prop} (hf : P.funcs[f]? = some fn) (hx : X.hpc k d f args hp = none) (hb : fn.body = some c) (hok : bodyOk fn = true) (hl : args.length = fn.params.size + fn.nfree)
    (hrv : fn.results.toList = rvs) (h : W P E (k + 1) (lim P E X) c ⟨frame0 args, hp⟩ fun e st => (∀ i, e ≠ .exit i) ∧ ∃ v hp', (lowerRes P st.fr k d rvs).run st.hp = some (v, hp') ∧ R v hp') : ∃ v hp', (lim P E X).hpc k d f args hp = some (v, hp') ∧ R v hp' := by
  obtain ⟨n, e, st, h1, hne, v, hp', h2, h3⟩ := h
  refine ⟨v, hp', lim_fnH (n := n) hf hx ?_, h3⟩
  unfold evFnH
  rw [hb, hrv]
  simp only [hok, hl, beq_self_eq_true, Bool.and_self, if_true]
  rw [h1]
  cases e with
  | exit i => exact (hne i rfl).elim
  | normal => exact h2
  | ret => exact h2
theorem wrap64 {n : Int} (h1 : -9223372036854775808 ≤ n) (h2 : n ≤ 9223372036854775807) : IntKind.i64.wrap n = n := IntWalk.i64_in n ⟨h1, h2⟩
/-! ### one operation at a time -/
section
variable {P : Program} {E : Cfg} {k : Nat} {call : Orc} {all : Array Oper} {os l : List Oper} {fr : Nat → AV} {hp hp' : Hp} {Q : AS → Prop} {d d' j id : Nat} {op : Op} {ty : TypeId} {pos : String} {aft : Array Edge} {v : AV} {b c : Bool} {fs : List Foot} {R W' : List Facet} {st : AS} {B : Code} {QQ : Ex → AS → Prop}
theorem W_srl (h : Wo P E k call l.toArray l st (fun s => W P E k call B s QQ)) : W P E k call (.seq (.region id l.toArray false) B) st QQ := by
  obtain ⟨st', h1, h2⟩ := h
  exact W_sr (by simpa using h1) h2
theorem W_rl (h : Wo P E k call l.toArray l st (QQ .normal)) : W P E k call (.region id l.toArray false) st QQ := by
  obtain ⟨st', h1, h2⟩ := h
  exact W_r (by simpa using h1) h2
theorem Wo_u (h : (evOp P E k call fr ⟨some d, op, ty, pos, aft, none⟩).run hp = some (v, hp')) (r : Wo P E k call all os ⟨setd fr (some d) v, hp'⟩ Q) : Wo P E k call all (⟨some d, op, ty, pos, aft, none⟩ :: os) ⟨fr, hp⟩ Q := by
  obtain ⟨st', h1, h2⟩ := r
  exact ⟨st', by simp only [evOps, guardA, h]; exact h1, h2⟩
theorem Wo_n (h : (evOp P E k call fr ⟨none, op, ty, pos, aft, none⟩).run hp = some (v, hp')) (r : Wo P E k call all os ⟨fr, hp'⟩ Q) : Wo P E k call all (⟨none, op, ty, pos, aft, none⟩ :: os) ⟨fr, hp⟩ Q := by
  obtain ⟨st', h1, h2⟩ := r
  exact ⟨st', by simp only [evOps, guardA, h]; exact h1, h2⟩
theorem Wo_gsT (hd : (all[j]?).bind (·.dst) = some d') (hc : fr d' = .sc (.bool c)) (ht : c = true → c = true → ∃ v hp', (evOp P E k call fr ⟨some d, op, ty, pos, aft, some (j, true)⟩).run hp = some (v, hp') ∧ Wo P E k call all os ⟨setd fr (some d) v, hp'⟩ Q)
    (hf : c = false → c = false → Wo P E k call all os ⟨setd fr (some d) (.sc undef), hp⟩ Q) : Wo P E k call all (⟨some d, op, ty, pos, aft, some (j, true)⟩ :: os) ⟨fr, hp⟩ Q := by
  cases c with
  | true =>
    obtain ⟨v, hp', h, st', h1, h2⟩ := ht rfl rfl
    exact ⟨st', by simp only [evOps, guardA, hd, hc, h, beq_self_eq_true]; exact h1, h2⟩
  | false =>
    obtain ⟨st', h1, h2⟩ := hf rfl rfl
    exact ⟨st', by simp only [evOps, guardA, hd, hc]; exact h1, h2⟩
theorem Wo_gsF (hd : (all[j]?).bind (·.dst) = some d') (hc : fr d' = .sc (.bool c)) (ht : c = false → c = false → ∃ v hp', (evOp P E k call fr ⟨some d, op, ty, pos, aft, some (j, false)⟩).run hp = some (v, hp') ∧ Wo P E k call all os ⟨setd fr (some d) v, hp'⟩ Q)
    (hf : c = true → c = true → Wo P E k call all os ⟨setd fr (some d) (.sc undef), hp⟩ Q) : Wo P E k call all (⟨some d, op, ty, pos, aft, some (j, false)⟩ :: os) ⟨fr, hp⟩ Q := by
  cases c with
  | false =>
    obtain ⟨v, hp', h, st', h1, h2⟩ := ht rfl rfl
    exact ⟨st', by simp only [evOps, guardA, hd, hc, h, beq_self_eq_true]; exact h1, h2⟩
  | true =>
    obtain ⟨st', h1, h2⟩ := hf rfl rfl
    exact ⟨st', by simp only [evOps, guardA, hd, hc]; exact h1, h2⟩
theorem Wo_gt (hd : (all[j]?).bind (·.dst) = some d') (hc : fr d' = .sc (.bool b)) (h : (evOp P E k call fr ⟨some d, op, ty, pos, aft, some (j, b)⟩).run hp = some (v, hp')) (r : Wo P E k call all os ⟨setd fr (some d) v, hp'⟩ Q) : Wo P E k call all (⟨some d, op, ty, pos, aft, some (j, b)⟩ :: os) ⟨fr, hp⟩ Q := by
  obtain ⟨st', h1, h2⟩ := r
  exact ⟨st', by simp only [evOps, guardA, hd, hc, beq_self_eq_true, h]; exact h1, h2⟩
theorem Wo_gf (hd : (all[j]?).bind (·.dst) = some d') (hc : fr d' = .sc (.bool c)) (hcb : (c == b) = false) (r : Wo P E k call all os ⟨setd fr (some d) (.sc undef), hp⟩ Q) : Wo P E k call all (⟨some d, op, ty, pos, aft, some (j, b)⟩ :: os) ⟨fr, hp⟩ Q := by
  obtain ⟨st', h1, h2⟩ := r
  exact ⟨st', by simp only [evOps, guardA, hd, hc, hcb]; exact h1, h2⟩
theorem Wo_gx {us : List Value} (hd : (all[j]?).bind (·.dst) = some d') (hc : fr d' = .sc (.tuple ⟨us⟩)) (r : Wo P E k call all os ⟨setd fr (some d) (.sc undef), hp⟩ Q) : Wo P E k call all (⟨some d, op, ty, pos, aft, some (j, b)⟩ :: os) ⟨fr, hp⟩ Q := by
  obtain ⟨st', h1, h2⟩ := r
  exact ⟨st', by simp only [evOps, guardA, hd, hc]; exact h1, h2⟩
def Wd (P : Program) (E : Cfg) (k : Nat) (call : Orc) (all : Array Oper) (os : List Oper) (st : AS) (fs : List Foot) (Q : AS → Prop) : Prop := ∃ st' fs', runDraw P E k call all os st fs = some (st', fs') ∧ drawF all fs' = true ∧ Q st'
theorem W_srdl (hs : drawS l.toArray = true) (h : Wd P E.dry k call l.toArray l st [] (fun s => W P E k call B s QQ)) : W P E k call (.seq (.region id l.toArray true) B) st QQ := by
  obtain ⟨st', fs', h1, h2, h3⟩ := h
  exact W_srd (by simpa using h1) hs h2 h3
theorem W_rdl (hs : drawS l.toArray = true) (h : Wd P E.dry k call l.toArray l st [] (QQ .normal)) : W P E k call (.region id l.toArray true) st QQ := by
  obtain ⟨st', fs', h1, h2, h3⟩ := h
  exact W_rd (by simpa using h1) hs h2 h3
theorem Wd_nil (hf : drawF all fs.reverse = true) (q : Q st) : Wd P E k call all [] st fs Q := ⟨st, fs.reverse, rfl, hf, q⟩
theorem Wd_u (h : (evOp P E k call fr ⟨some d, op, ty, pos, aft, none⟩).runF hp [] [] = some (v, hp', R, W')) (r : Wd P E k call all os ⟨setd fr (some d) v, hp'⟩ (⟨R, W'⟩ :: fs) Q) : Wd P E k call all (⟨some d, op, ty, pos, aft, none⟩ :: os) ⟨fr, hp⟩ fs Q := by
  obtain ⟨st', fs', h1, h2⟩ := r
  exact ⟨st', fs', by simp only [runDraw, stepF, guardA, h]; exact h1, h2⟩
theorem Wd_n (h : (evOp P E k call fr ⟨none, op, ty, pos, aft, none⟩).runF hp [] [] = some (v, hp', R, W')) (r : Wd P E k call all os ⟨fr, hp'⟩ (⟨R, W'⟩ :: fs) Q) : Wd P E k call all (⟨none, op, ty, pos, aft, none⟩ :: os) ⟨fr, hp⟩ fs Q := by
  obtain ⟨st', fs', h1, h2⟩ := r
  exact ⟨st', fs', by simp only [runDraw, stepF, guardA, h]; exact h1, h2⟩
theorem Wd_gsT (hd : (all[j]?).bind (·.dst) = some d') (hc : fr d' = .sc (.bool c)) (ht : c = true → c = true → ∃ v hp' R W', (evOp P E k call fr ⟨some d, op, ty, pos, aft, some (j, true)⟩).runF hp [] [] = some (v, hp', R, W') ∧ Wd P E k call all os ⟨setd fr (some d) v, hp'⟩ (⟨R, W'⟩ :: fs) Q)
    (hf : c = false → c = false → Wd P E k call all os ⟨setd fr (some d) (.sc undef), hp⟩ (⟨[], []⟩ :: fs) Q) : Wd P E k call all (⟨some d, op, ty, pos, aft, some (j, true)⟩ :: os) ⟨fr, hp⟩ fs Q := by
  cases c with
  | true =>
    obtain ⟨v, hp', R, W', h, st', fs', h1, h2⟩ := ht rfl rfl
    exact ⟨st', fs', by simp only [runDraw, stepF, guardA, hd, hc, h, beq_self_eq_true]; exact h1, h2⟩
  | false =>
    obtain ⟨st', fs', h1, h2⟩ := hf rfl rfl
    exact ⟨st', fs', by simp only [runDraw, stepF, guardA, hd, hc]; exact h1, h2⟩
theorem Wd_gsF (hd : (all[j]?).bind (·.dst) = some d') (hc : fr d' = .sc (.bool c)) (ht : c = false → c = false → ∃ v hp' R W', (evOp P E k call fr ⟨some d, op, ty, pos, aft, some (j, false)⟩).runF hp [] [] = some (v, hp', R, W') ∧ Wd P E k call all os ⟨setd fr (some d) v, hp'⟩ (⟨R, W'⟩ :: fs) Q)
    (hf : c = true → c = true → Wd P E k call all os ⟨setd fr (some d) (.sc undef), hp⟩ (⟨[], []⟩ :: fs) Q) : Wd P E k call all (⟨some d, op, ty, pos, aft, some (j, false)⟩ :: os) ⟨fr, hp⟩ fs Q := by
  cases c with
  | false =>
    obtain ⟨v, hp', R, W', h, st', fs', h1, h2⟩ := ht rfl rfl
    exact ⟨st', fs', by simp only [runDraw, stepF, guardA, hd, hc, h, beq_self_eq_true]; exact h1, h2⟩
  | true =>
    obtain ⟨st', fs', h1, h2⟩ := hf rfl rfl
    exact ⟨st', fs', by simp only [runDraw, stepF, guardA, hd, hc]; exact h1, h2⟩
theorem ex2 {α β : Type} {p : Option (α × β)} {G : α → β → Prop} {v : α} {h : β} (e : p = some (v, h)) (g : G v h) : ∃ v h, p = some (v, h) ∧ G v h := ⟨v, h, e, g⟩
theorem ex4 {α β γ δ : Type} {p : Option (α × β × γ × δ)} {G : α → β → γ → δ → Prop} {v : α} {h : β} {r : γ} {w : δ} (e : p = some (v, h, r, w)) (g : G v h r w) : ∃ v h r w, p = some (v, h, r, w) ∧ G v h r w := ⟨v, h, r, w, e, g⟩
end
/-! ### rules for the symbolic end -/
theorem thenW_n {N : AS → Prop} {Q : Ex → AS → Prop} {s : AS} (h : N s) : thenW N Q .normal s := h
theorem thenW_r {N : AS → Prop} {Q : Ex → AS → Prop} {s : AS} (h : Q .ret s) : thenW N Q .ret s := h
theorem thenW_e {N : AS → Prop} {Q : Ex → AS → Prop} {s : AS} {i : Nat} (h : Q (.exit i) s) : thenW N Q (.exit i) s := h
theorem inB_n {Q : Ex → AS → Prop} {s : AS} {i : Nat} (h : Q .normal s) : inBlockW i Q .normal s := h
theorem inB_r {Q : Ex → AS → Prop} {s : AS} {i : Nat} (h : Q .ret s) : inBlockW i Q .ret s := h
theorem inB_e {Q : Ex → AS → Prop} {s : AS} {i : Nat} (h : Q .normal s) : inBlockW i Q (.exit i) s := by simp [inBlockW, h]
theorem inB_o {Q : Ex → AS → Prop} {s : AS} {i j : Nat} (h : Q (.exit i) s) (hne : (i == j) = false) : inBlockW j Q (.exit i) s := by
  have : i ≠ j := by simpa using hne
  simp [inBlockW, this, h]
@[simp] theorem setd_app (fr : Nat → AV) (d i : Nat) (v : AV) : setd fr (some d) v i = if i = d then v else fr i := rfl
@[simp] theorem setd_none (fr : Nat → AV) (v : AV) : setd fr none v = fr := rfl
@[simp] theorem run_ret {α : Type} (a : α) (hp : Hp) : (Prog.ret a).run hp = some (a, hp) := rfl
attribute [simp] run_bind
@[simp] theorem run_get {α : Type} (x : Nm) (f : AObj → Prog α) (hp : Hp) : (Prog.get x f).run hp = (f (hp x)).run hp := rfl
@[simp] theorem run_put {α : Type} (x : Nm) (o : AObj) (p : Prog α) (hp : Hp) : (Prog.put x o p).run hp = p.run (upd hp x o) := rfl
@[simp] theorem run_hdr {α : Type} (x : Nm) (f : Head → Prog α) (hp : Hp) : (Prog.hdr x f).run hp = (f (hp x).head).run hp := rfl
@[simp] theorem upd_app {α : Type} (hp : Nm → α) (x y : Nm) (o : α) : upd hp x o y = if y = x then o else hp y := rfl
@[simp] theorem upd_upd {α : Type} (hp : Nm → α) (x : Nm) (o o' : α) : upd (upd hp x o) x o' = upd hp x o' := by
  funext y
  simp only [upd]
  split <;> rfl
@[simp] theorem Cfg.dry_hp (E : Cfg) (f : Nat) : E.dry.hp f = E.hp f := rfl
@[simp] theorem Cfg.dry_eq (E : Cfg) (t : TypeId) : E.dry.eq t = E.eq t := rfl
@[simp] theorem Cfg.dry_yl (E : Cfg) (l : Nat) : E.dry.yl l = false := rfl
end Go.Ab
namespace Go.Ab
open Go
attribute [simp] Prog.run Prog.bind evOps guardA evOp opA assignP evBin evInt evStr evUn newBox settleL settle newArr loadP cellsFrom getCs putCs storeP shiftA fieldP indexP lenP chk chkL cellsA aggA allSc toDat toDatL callP argsP oneV takeRes takeAll takeOne takeL takeCell resultsP resultP hand handL handCell sliceP bound rowsP appendP copyP makeP fillA buildP rowsOfParts buildSliceP partA fieldVP indexVP convertP bytesOfRows eqV eqL cellFits fitsL splice chunks isDat isDat0 capD capDL ownD ownDL escC escL moveB lowerC cellOf setCellOf runDraw stepF Prog.runF frame0 Value.oneCell'
@[simp] theorem gen_no (g : Nat) : (AObj.no g).gen = g := (rfl)
@[simp] theorem gen_box (g : Nat) (c : List AV) (f : Bool) : (AObj.box g c f).gen = g := (rfl)
@[simp] theorem gen_arr (g sz : Nat) (e : TypeId) (r : List (List AV)) (f : Bool) : (AObj.arr g sz e r f).gen = g := (rfl)
@[simp] theorem head_no (g : Nat) : (AObj.no g).head = .no := (rfl)
@[simp] theorem head_box (g : Nat) (c : List AV) (f : Bool) : (AObj.box g c f).head = .box g c.length f := (rfl)
@[simp] theorem head_arr (g sz : Nat) (e : TypeId) (r : List (List AV)) (f : Bool) : (AObj.arr g sz e r f).head = .arr g sz e r.length f := (rfl)
@[simp] theorem hp0_app (x : Nm) : hp0 x = .no 0 := rfl
@[simp] theorem maxLen_eq : maxLen = 9223372036854775807 := rfl
theorem step0 {p : Prop} (h : p := by
    repeat' (first | ((with_reducible first | apply Wo_u | apply Wo_n | apply ex2 | apply W_sc | apply W_c | apply Wd_u | apply Wd_n | apply ex4 | apply EndQ_ret | apply EndQ_normal); (conv => lhs; simp -implicitDefEqProofs [*]) <;> exact rfl) | (with_reducible first | apply Wo_nil | apply W_ss | apply W_srl | apply W_rl | apply W_sblock | apply W_block | apply W_sskip | apply W_skip | apply W_sret | apply W_ret | apply W_sexit | apply W_exit | apply thenW_n | apply thenW_r | apply thenW_e | apply inB_n | apply inB_r | apply inB_e) | ((with_reducible apply Wo_gt); (exact rfl); ((conv => lhs; simp -implicitDefEqProofs [*]) <;> exact rfl); (conv => lhs; simp -implicitDefEqProofs [*]) <;> exact rfl) | ((with_reducible apply Wo_gf); (exact rfl); ((conv => lhs; simp -implicitDefEqProofs [*]) <;> exact rfl); (exact rfl)) | ((with_reducible apply Wo_gx); (exact rfl); ((conv => lhs; simp -implicitDefEqProofs [*]) <;> exact rfl)) | ((with_reducible apply Wo_gsT); (exact rfl); ((conv => lhs; simp -implicitDefEqProofs [*]) <;> exact rfl)) | ((with_reducible apply Wo_gsF); (exact rfl); ((conv => lhs; simp -implicitDefEqProofs [*]) <;> exact rfl)) | ((with_reducible apply Wd_gsT); (exact rfl); ((conv => lhs; simp -implicitDefEqProofs [*]) <;> exact rfl)) | ((with_reducible apply Wd_gsF); (exact rfl); ((conv => lhs; simp -implicitDefEqProofs [*]) <;> exact rfl)) | ((with_reducible first | apply W_srdl | apply W_rdl); kernel_rfl) | ((with_reducible apply Wd_nil); kernel_rfl) | ((with_reducible apply inB_o); rotate_left; exact rfl) | (intro h h'; try simp [*, -h] at h') | ((with_reducible apply Wd_gx); (exact rfl); ((conv => lhs; simp -implicitDefEqProofs [*]) <;> exact rfl)))
    all_goals rfl) : p := h
theorem step1 {p : Prop} (h : p := by
    repeat' (first | ((with_reducible first | apply Wo_u | apply Wo_n | apply ex2 | apply W_sc | apply W_c | apply Wd_u | apply Wd_n | apply ex4 | apply EndQ_ret | apply EndQ_normal); (conv => lhs; simp -implicitDefEqProofs [*]) <;> exact rfl) | (with_reducible first | apply Wo_nil | apply W_ss | apply W_srl | apply W_rl | apply W_sblock | apply W_block | apply W_sskip | apply W_skip | apply W_sret | apply W_ret | apply W_sexit | apply W_exit | apply thenW_n | apply thenW_r | apply thenW_e | apply inB_n | apply inB_r | apply inB_e) | ((with_reducible apply Wo_gt); (exact rfl); ((conv => lhs; simp -implicitDefEqProofs [*]) <;> exact rfl); (conv => lhs; simp -implicitDefEqProofs [*]) <;> exact rfl) | ((with_reducible apply Wo_gf); (exact rfl); ((conv => lhs; simp -implicitDefEqProofs [*]) <;> exact rfl); (exact rfl)) | ((with_reducible apply Wo_gx); (exact rfl); ((conv => lhs; simp -implicitDefEqProofs [*]) <;> exact rfl)) | ((with_reducible apply Wo_gsT); (exact rfl); ((conv => lhs; simp -implicitDefEqProofs [*]) <;> exact rfl)) | ((with_reducible apply Wo_gsF); (exact rfl); ((conv => lhs; simp -implicitDefEqProofs [*]) <;> exact rfl)) | ((with_reducible apply Wd_gsT); (exact rfl); ((conv => lhs; simp -implicitDefEqProofs [*]) <;> exact rfl)) | ((with_reducible apply Wd_gsF); (exact rfl); ((conv => lhs; simp -implicitDefEqProofs [*]) <;> exact rfl)) | ((with_reducible first | apply W_srdl | apply W_rdl); kernel_rfl) | ((with_reducible apply Wd_nil); kernel_rfl) | ((with_reducible apply inB_o); rotate_left; exact rfl) | (intro h h'; try simp [*, -h] at h') | ((with_reducible apply Wd_gx); (exact rfl); ((conv => lhs; simp -implicitDefEqProofs [*]) <;> exact rfl)))
    all_goals simp [*]) : p := h
theorem step2 {p : Prop} (h : p := by
    repeat' (first | ((with_reducible first | apply Wo_u | apply Wo_n | apply ex2 | apply W_sc | apply W_c | apply Wd_u | apply Wd_n | apply ex4 | apply EndQ_ret | apply EndQ_normal); (conv => lhs; simp -implicitDefEqProofs [*]) <;> exact rfl) | (with_reducible first | apply Wo_nil | apply W_ss | apply W_srl | apply W_rl | apply W_sblock | apply W_block | apply W_sskip | apply W_skip | apply W_sret | apply W_ret | apply W_sexit | apply W_exit | apply thenW_n | apply thenW_r | apply thenW_e | apply inB_n | apply inB_r | apply inB_e) | ((with_reducible apply Wo_gt); (exact rfl); ((conv => lhs; simp -implicitDefEqProofs [*]) <;> exact rfl); (conv => lhs; simp -implicitDefEqProofs [*]) <;> exact rfl) | ((with_reducible apply Wo_gf); (exact rfl); ((conv => lhs; simp -implicitDefEqProofs [*]) <;> exact rfl); (exact rfl)) | ((with_reducible apply Wo_gx); (exact rfl); ((conv => lhs; simp -implicitDefEqProofs [*]) <;> exact rfl)) | ((with_reducible apply Wo_gsT); (exact rfl); ((conv => lhs; simp -implicitDefEqProofs [*]) <;> exact rfl)) | ((with_reducible apply Wo_gsF); (exact rfl); ((conv => lhs; simp -implicitDefEqProofs [*]) <;> exact rfl)) | ((with_reducible apply Wd_gsT); (exact rfl); ((conv => lhs; simp -implicitDefEqProofs [*]) <;> exact rfl)) | ((with_reducible apply Wd_gsF); (exact rfl); ((conv => lhs; simp -implicitDefEqProofs [*]) <;> exact rfl)) | ((with_reducible first | apply W_srdl | apply W_rdl); kernel_rfl) | ((with_reducible apply Wd_nil); kernel_rfl) | ((with_reducible apply inB_o); rotate_left; exact rfl) | (intro h h'; try simp [*, -h] at h') | ((with_reducible apply Wd_gx); (exact rfl); ((conv => lhs; simp -implicitDefEqProofs [*]) <;> exact rfl)))
    all_goals exact ⟨by simp, _, _, rfl, rfl, by simp [*], fun y h0 h1 => (by have e1 : ∀ k i, y ≠ ⟨k + 1, i, 0⟩ := fun k i e => (by subst e; simp at h0); have e2 : ∀ i, y ≠ ⟨1, i, 0⟩ := fun i => e1 0 i; have e3 : ∀ i, y ≠ ⟨2, i, 0⟩ := fun i => e1 1 i; have e4 : ∀ i, y ≠ ⟨3, i, 0⟩ := fun i => e1 2 i; have e5 : ∀ i, y ≠ ⟨4, i, 0⟩ := fun i => e1 3 i; simp [*])⟩) : p := h
theorem step3 {p : Prop} (h : p := by
    repeat' (first | ((with_reducible first | apply Wo_u | apply Wo_n | apply ex2 | apply W_sc | apply W_c | apply Wd_u | apply Wd_n | apply ex4 | apply EndQ_ret | apply EndQ_normal); (conv => lhs; simp -implicitDefEqProofs [*]) <;> exact rfl) | (with_reducible first | apply Wo_nil | apply W_ss | apply W_srl | apply W_rl | apply W_sblock | apply W_block | apply W_sskip | apply W_skip | apply W_sret | apply W_ret | apply W_sexit | apply W_exit | apply thenW_n | apply thenW_r | apply thenW_e | apply inB_n | apply inB_r | apply inB_e) | ((with_reducible apply Wo_gt); (exact rfl); ((conv => lhs; simp -implicitDefEqProofs [*]) <;> exact rfl); (conv => lhs; simp -implicitDefEqProofs [*]) <;> exact rfl) | ((with_reducible apply Wo_gf); (exact rfl); ((conv => lhs; simp -implicitDefEqProofs [*]) <;> exact rfl); (exact rfl)) | ((with_reducible apply Wo_gx); (exact rfl); ((conv => lhs; simp -implicitDefEqProofs [*]) <;> exact rfl)) | ((with_reducible apply Wo_gsT); (exact rfl); ((conv => lhs; simp -implicitDefEqProofs [*]) <;> exact rfl)) | ((with_reducible apply Wo_gsF); (exact rfl); ((conv => lhs; simp -implicitDefEqProofs [*]) <;> exact rfl)) | ((with_reducible apply Wd_gsT); (exact rfl); ((conv => lhs; simp -implicitDefEqProofs [*]) <;> exact rfl)) | ((with_reducible apply Wd_gsF); (exact rfl); ((conv => lhs; simp -implicitDefEqProofs [*]) <;> exact rfl)) | ((with_reducible first | apply W_srdl | apply W_rdl); kernel_rfl) | ((with_reducible apply Wd_nil); kernel_rfl) | ((with_reducible apply inB_o); rotate_left; exact rfl) | (intro h h'; try simp [*, -h] at h') | ((with_reducible apply Wd_gx); (exact rfl); ((conv => lhs; simp -implicitDefEqProofs [*]) <;> exact rfl)))
    all_goals exact ⟨by simp, _, _, rfl, rfl, by simp [*], by simp [*], fun y h0 h1 h2 => (by have e1 : ∀ k i, y ≠ ⟨k + 1, i, 0⟩ := fun k i e => (by subst e; simp at h0); have e2 : ∀ i, y ≠ ⟨1, i, 0⟩ := fun i => e1 0 i; have e3 : ∀ i, y ≠ ⟨2, i, 0⟩ := fun i => e1 1 i; have e4 : ∀ i, y ≠ ⟨3, i, 0⟩ := fun i => e1 2 i; have e5 : ∀ i, y ≠ ⟨4, i, 0⟩ := fun i => e1 3 i; simp [*])⟩) : p := h
theorem step4 {p : Prop} (h : p := by
    repeat' (first | ((with_reducible first | apply Wo_u | apply Wo_n | apply ex2 | apply W_sc | apply W_c | apply Wd_u | apply Wd_n | apply ex4 | apply EndQ_ret | apply EndQ_normal); (conv => lhs; simp -implicitDefEqProofs [*]) <;> exact rfl) | (with_reducible first | apply Wo_nil | apply W_ss | apply W_srl | apply W_rl | apply W_sblock | apply W_block | apply W_sskip | apply W_skip | apply W_sret | apply W_ret | apply W_sexit | apply W_exit | apply thenW_n | apply thenW_r | apply thenW_e | apply inB_n | apply inB_r | apply inB_e) | ((with_reducible apply Wo_gt); (exact rfl); ((conv => lhs; simp -implicitDefEqProofs [*]) <;> exact rfl); (conv => lhs; simp -implicitDefEqProofs [*]) <;> exact rfl) | ((with_reducible apply Wo_gf); (exact rfl); ((conv => lhs; simp -implicitDefEqProofs [*]) <;> exact rfl); (exact rfl)) | ((with_reducible apply Wo_gx); (exact rfl); ((conv => lhs; simp -implicitDefEqProofs [*]) <;> exact rfl)) | ((with_reducible apply Wo_gsT); (exact rfl); ((conv => lhs; simp -implicitDefEqProofs [*]) <;> exact rfl)) | ((with_reducible apply Wo_gsF); (exact rfl); ((conv => lhs; simp -implicitDefEqProofs [*]) <;> exact rfl)) | ((with_reducible apply Wd_gsT); (exact rfl); ((conv => lhs; simp -implicitDefEqProofs [*]) <;> exact rfl)) | ((with_reducible apply Wd_gsF); (exact rfl); ((conv => lhs; simp -implicitDefEqProofs [*]) <;> exact rfl)) | ((with_reducible first | apply W_srdl | apply W_rdl); kernel_rfl) | ((with_reducible apply Wd_nil); kernel_rfl) | ((with_reducible apply inB_o); rotate_left; exact rfl) | (intro h h'; try simp [*, -h] at h') | ((with_reducible apply Wd_gx); (exact rfl); ((conv => lhs; simp -implicitDefEqProofs [*]) <;> exact rfl)))
    all_goals exact ⟨by simp, _, _, rfl, rfl, by simp [*], fun y h0 h1 => (by have e1 : ∀ k i, y ≠ ⟨k + 1, i, 0⟩ := fun k i e => (by subst e; simp at h0); have e2 : ∀ i, y ≠ ⟨1, i, 0⟩ := fun i => e1 0 i; have e3 : ∀ i, y ≠ ⟨2, i, 0⟩ := fun i => e1 1 i; have e4 : ∀ i, y ≠ ⟨3, i, 0⟩ := fun i => e1 2 i; have e5 : ∀ i, y ≠ ⟨4, i, 0⟩ := fun i => e1 3 i; simp [*, f3 _ _ _ y h0 h1])⟩) : p := h
theorem step5 {p : Prop} (h : p := by
    repeat' (first | ((with_reducible first | apply Wo_u | apply Wo_n | apply ex2 | apply W_sc | apply W_c | apply Wd_u | apply Wd_n | apply ex4 | apply EndQ_ret | apply EndQ_normal); (conv => lhs; simp -implicitDefEqProofs [*]) <;> exact rfl) | (with_reducible first | apply Wo_nil | apply W_ss | apply W_srl | apply W_rl | apply W_sblock | apply W_block | apply W_sskip | apply W_skip | apply W_sret | apply W_ret | apply W_sexit | apply W_exit | apply thenW_n | apply thenW_r | apply thenW_e | apply inB_n | apply inB_r | apply inB_e) | ((with_reducible apply Wo_gt); (exact rfl); ((conv => lhs; simp -implicitDefEqProofs [*]) <;> exact rfl); (conv => lhs; simp -implicitDefEqProofs [*]) <;> exact rfl) | ((with_reducible apply Wo_gf); (exact rfl); ((conv => lhs; simp -implicitDefEqProofs [*]) <;> exact rfl); (exact rfl)) | ((with_reducible apply Wo_gx); (exact rfl); ((conv => lhs; simp -implicitDefEqProofs [*]) <;> exact rfl)) | ((with_reducible apply Wo_gsT); (exact rfl); ((conv => lhs; simp -implicitDefEqProofs [*]) <;> exact rfl)) | ((with_reducible apply Wo_gsF); (exact rfl); ((conv => lhs; simp -implicitDefEqProofs [*]) <;> exact rfl)) | ((with_reducible apply Wd_gsT); (exact rfl); ((conv => lhs; simp -implicitDefEqProofs [*]) <;> exact rfl)) | ((with_reducible apply Wd_gsF); (exact rfl); ((conv => lhs; simp -implicitDefEqProofs [*]) <;> exact rfl)) | ((with_reducible first | apply W_srdl | apply W_rdl); kernel_rfl) | ((with_reducible apply Wd_nil); kernel_rfl) | ((with_reducible apply inB_o); rotate_left; exact rfl) | (intro h h'; try simp [*, -h] at h') | ((with_reducible apply Wd_gx); (exact rfl); ((conv => lhs; simp -implicitDefEqProofs [*]) <;> exact rfl)))
    all_goals exact ⟨by simp, _, _, rfl, rfl, by simp [*], by simp [*], fun y h0 h1 h2 => (by have e1 : ∀ k i, y ≠ ⟨k + 1, i, 0⟩ := fun k i e => (by subst e; simp at h0); have e2 : ∀ i, y ≠ ⟨1, i, 0⟩ := fun i => e1 0 i; have e3 : ∀ i, y ≠ ⟨2, i, 0⟩ := fun i => e1 1 i; have e4 : ∀ i, y ≠ ⟨3, i, 0⟩ := fun i => e1 2 i; have e5 : ∀ i, y ≠ ⟨4, i, 0⟩ := fun i => e1 3 i; simp [*, f3 _ _ _ y h0 h1 h2])⟩) : p := h
theorem step6 {p : Prop} (h : p := by
    repeat' (first | ((with_reducible first | apply Wo_u | apply Wo_n | apply ex2 | apply W_sc | apply W_c | apply Wd_u | apply Wd_n | apply ex4 | apply EndQ_ret | apply EndQ_normal); (conv => lhs; simp -implicitDefEqProofs [*]) <;> exact rfl) | (with_reducible first | apply Wo_nil | apply W_ss | apply W_srl | apply W_rl | apply W_sblock | apply W_block | apply W_sskip | apply W_skip | apply W_sret | apply W_ret | apply W_sexit | apply W_exit | apply thenW_n | apply thenW_r | apply thenW_e | apply inB_n | apply inB_r | apply inB_e) | ((with_reducible apply Wo_gt); (exact rfl); ((conv => lhs; simp -implicitDefEqProofs [*]) <;> exact rfl); (conv => lhs; simp -implicitDefEqProofs [*]) <;> exact rfl) | ((with_reducible apply Wo_gf); (exact rfl); ((conv => lhs; simp -implicitDefEqProofs [*]) <;> exact rfl); (exact rfl)) | ((with_reducible apply Wo_gx); (exact rfl); ((conv => lhs; simp -implicitDefEqProofs [*]) <;> exact rfl)) | ((with_reducible apply Wo_gsT); (exact rfl); ((conv => lhs; simp -implicitDefEqProofs [*]) <;> exact rfl)) | ((with_reducible apply Wo_gsF); (exact rfl); ((conv => lhs; simp -implicitDefEqProofs [*]) <;> exact rfl)) | ((with_reducible apply Wd_gsT); (exact rfl); ((conv => lhs; simp -implicitDefEqProofs [*]) <;> exact rfl)) | ((with_reducible apply Wd_gsF); (exact rfl); ((conv => lhs; simp -implicitDefEqProofs [*]) <;> exact rfl)) | ((with_reducible first | apply W_srdl | apply W_rdl); kernel_rfl) | ((with_reducible apply Wd_nil); kernel_rfl) | ((with_reducible apply inB_o); rotate_left; exact rfl) | (intro h h'; try simp [*, -h] at h') | ((with_reducible apply Wd_gx); (exact rfl); ((conv => lhs; simp -implicitDefEqProofs [*]) <;> exact rfl)))
    all_goals exact ⟨by simp, _, _, rfl, rfl, by simp [*]⟩) : p := h
theorem step7 {p : Prop} (h : p := by
    repeat' (first | ((with_reducible first | apply Wo_u | apply Wo_n | apply ex2 | apply W_sc | apply W_c | apply Wd_u | apply Wd_n | apply ex4 | apply EndQ_ret | apply EndQ_normal); (conv => lhs; simp -implicitDefEqProofs [*]) <;> exact rfl) | (with_reducible first | apply Wo_nil | apply W_ss | apply W_srl | apply W_rl | apply W_sblock | apply W_block | apply W_sskip | apply W_skip | apply W_sret | apply W_ret | apply W_sexit | apply W_exit | apply thenW_n | apply thenW_r | apply thenW_e | apply inB_n | apply inB_r | apply inB_e) | ((with_reducible apply Wo_gt); (exact rfl); ((conv => lhs; simp -implicitDefEqProofs [*]) <;> exact rfl); (conv => lhs; simp -implicitDefEqProofs [*]) <;> exact rfl) | ((with_reducible apply Wo_gf); (exact rfl); ((conv => lhs; simp -implicitDefEqProofs [*]) <;> exact rfl); (exact rfl)) | ((with_reducible apply Wo_gx); (exact rfl); ((conv => lhs; simp -implicitDefEqProofs [*]) <;> exact rfl)) | ((with_reducible apply Wo_gsT); (exact rfl); ((conv => lhs; simp -implicitDefEqProofs [*]) <;> exact rfl)) | ((with_reducible apply Wo_gsF); (exact rfl); ((conv => lhs; simp -implicitDefEqProofs [*]) <;> exact rfl)) | ((with_reducible apply Wd_gsT); (exact rfl); ((conv => lhs; simp -implicitDefEqProofs [*]) <;> exact rfl)) | ((with_reducible apply Wd_gsF); (exact rfl); ((conv => lhs; simp -implicitDefEqProofs [*]) <;> exact rfl)) | ((with_reducible first | apply W_srdl | apply W_rdl); kernel_rfl) | ((with_reducible apply Wd_nil); exact rfl) | ((with_reducible apply inB_o); rotate_left; exact rfl) | (intro h h'; try simp [*, -h] at h'))
    all_goals rfl) : p := h
theorem step8 {p : Prop} (h : p := by
    repeat' (first | ((with_reducible first | apply Wo_u | apply Wo_n | apply ex2 | apply W_sc | apply W_c | apply Wd_u | apply Wd_n | apply ex4 | apply EndQ_ret | apply EndQ_normal); (conv => lhs; simp -implicitDefEqProofs [*]) <;> exact rfl) | (with_reducible first | apply Wo_nil | apply W_ss | apply W_srl | apply W_rl | apply W_sblock | apply W_block | apply W_sskip | apply W_skip | apply W_sret | apply W_ret | apply W_sexit | apply W_exit | apply thenW_n | apply thenW_r | apply thenW_e | apply inB_n | apply inB_r | apply inB_e) | ((with_reducible apply Wo_gt); (exact rfl); ((conv => lhs; simp -implicitDefEqProofs [*]) <;> exact rfl); (conv => lhs; simp -implicitDefEqProofs [*]) <;> exact rfl) | ((with_reducible apply Wo_gf); (exact rfl); ((conv => lhs; simp -implicitDefEqProofs [*]) <;> exact rfl); (exact rfl)) | ((with_reducible apply Wo_gx); (exact rfl); ((conv => lhs; simp -implicitDefEqProofs [*]) <;> exact rfl)) | ((with_reducible apply Wo_gsT); (exact rfl); ((conv => lhs; simp -implicitDefEqProofs [*]) <;> exact rfl)) | ((with_reducible apply Wo_gsF); (exact rfl); ((conv => lhs; simp -implicitDefEqProofs [*]) <;> exact rfl)) | ((with_reducible apply Wd_gsT); (exact rfl); ((conv => lhs; simp -implicitDefEqProofs [*]) <;> exact rfl)) | ((with_reducible apply Wd_gsF); (exact rfl); ((conv => lhs; simp -implicitDefEqProofs [*]) <;> exact rfl)) | ((with_reducible first | apply W_srdl | apply W_rdl); kernel_rfl) | ((with_reducible apply Wd_nil); kernel_rfl) | ((with_reducible apply inB_o); rotate_left; exact rfl) | (intro h h'; try simp [*, -h] at h') | ((with_reducible apply Wd_gx); (exact rfl); ((conv => lhs; simp -implicitDefEqProofs [*]) <;> exact rfl)))
    all_goals (first | rfl | (simp; done) | omega)) : p := h
theorem step9 {p : Prop} (h : p := by
    repeat' (first | ((with_reducible first | apply Wo_u | apply Wo_n | apply ex2 | apply W_sc | apply W_c | apply Wd_u | apply Wd_n | apply ex4 | apply EndQ_ret | apply EndQ_normal); (conv => lhs; simp -implicitDefEqProofs [*]) <;> exact rfl) | (with_reducible first | apply Wo_nil | apply W_ss | apply W_srl | apply W_rl | apply W_sblock | apply W_block | apply W_sskip | apply W_skip | apply W_sret | apply W_ret | apply W_sexit | apply W_exit | apply thenW_n | apply thenW_r | apply thenW_e | apply inB_n | apply inB_r | apply inB_e) | ((with_reducible apply Wo_gt); (exact rfl); ((conv => lhs; simp -implicitDefEqProofs [*]) <;> exact rfl); (conv => lhs; simp -implicitDefEqProofs [*]) <;> exact rfl) | ((with_reducible apply Wo_gf); (exact rfl); ((conv => lhs; simp -implicitDefEqProofs [*]) <;> exact rfl); (exact rfl)) | ((with_reducible apply Wo_gx); (exact rfl); ((conv => lhs; simp -implicitDefEqProofs [*]) <;> exact rfl)) | ((with_reducible apply Wo_gsT); (exact rfl); ((conv => lhs; simp -implicitDefEqProofs [*]) <;> exact rfl)) | ((with_reducible apply Wo_gsF); (exact rfl); ((conv => lhs; simp -implicitDefEqProofs [*]) <;> exact rfl)) | ((with_reducible apply Wd_gsT); (exact rfl); ((conv => lhs; simp -implicitDefEqProofs [*]) <;> exact rfl)) | ((with_reducible apply Wd_gsF); (exact rfl); ((conv => lhs; simp -implicitDefEqProofs [*]) <;> exact rfl)) | ((with_reducible first | apply W_srdl | apply W_rdl); kernel_rfl) | ((with_reducible apply Wd_nil); kernel_rfl) | ((with_reducible apply inB_o); rotate_left; exact rfl) | (intro h h'; try simp [*, -h] at h') | ((with_reducible apply Wd_gx); (exact rfl); ((conv => lhs; simp -implicitDefEqProofs [*]) <;> exact rfl)))
    all_goals simp) : p := h
theorem step10 {p : Prop} (h : p := by
    repeat' (first | ((with_reducible first | apply Wo_u | apply Wo_n | apply ex2 | apply W_sc | apply W_c | apply Wd_u | apply Wd_n | apply ex4 | apply EndQ_ret | apply EndQ_normal); (conv => lhs; simp -implicitDefEqProofs [*]) <;> exact rfl) | (with_reducible first | apply Wo_nil | apply W_ss | apply W_srl | apply W_rl | apply W_sblock | apply W_block | apply W_sskip | apply W_skip | apply W_sret | apply W_ret | apply W_sexit | apply W_exit | apply thenW_n | apply thenW_r | apply thenW_e | apply inB_n | apply inB_r | apply inB_e) | ((with_reducible apply Wo_gt); (exact rfl); ((conv => lhs; simp -implicitDefEqProofs [*]) <;> exact rfl); (conv => lhs; simp -implicitDefEqProofs [*]) <;> exact rfl) | ((with_reducible apply Wo_gf); (exact rfl); ((conv => lhs; simp -implicitDefEqProofs [*]) <;> exact rfl); (exact rfl)) | ((with_reducible apply Wo_gx); (exact rfl); ((conv => lhs; simp -implicitDefEqProofs [*]) <;> exact rfl)) | ((with_reducible apply Wo_gsT); (exact rfl); ((conv => lhs; simp -implicitDefEqProofs [*]) <;> exact rfl)) | ((with_reducible apply Wo_gsF); (exact rfl); ((conv => lhs; simp -implicitDefEqProofs [*]) <;> exact rfl)) | ((with_reducible apply Wd_gsT); (exact rfl); ((conv => lhs; simp -implicitDefEqProofs [*]) <;> exact rfl)) | ((with_reducible apply Wd_gsF); (exact rfl); ((conv => lhs; simp -implicitDefEqProofs [*]) <;> exact rfl)) | ((with_reducible first | apply W_srdl | apply W_rdl); kernel_rfl) | ((with_reducible apply Wd_nil); exact rfl) | ((with_reducible apply inB_o); rotate_left; exact rfl) | (intro h h'; try simp [*, -h] at h'))
    all_goals exact ⟨_, by omega, i + 1, rfl, hlt, by simp [*], by rw [← hst.out]; simp [*], by simp [*]⟩) : p := h
theorem step11 {p : Prop} (h : p := by
    repeat' (first | ((with_reducible first | apply Wo_u | apply Wo_n | apply ex2 | apply W_sc | apply W_c | apply Wd_u | apply Wd_n | apply ex4 | apply EndQ_ret | apply EndQ_normal); (conv => lhs; simp -implicitDefEqProofs [*]) <;> exact rfl) | (with_reducible first | apply Wo_nil | apply W_ss | apply W_srl | apply W_rl | apply W_sblock | apply W_block | apply W_sskip | apply W_skip | apply W_sret | apply W_ret | apply W_sexit | apply W_exit | apply thenW_n | apply thenW_r | apply thenW_e | apply inB_n | apply inB_r | apply inB_e) | ((with_reducible apply Wo_gt); (exact rfl); ((conv => lhs; simp -implicitDefEqProofs [*]) <;> exact rfl); (conv => lhs; simp -implicitDefEqProofs [*]) <;> exact rfl) | ((with_reducible apply Wo_gf); (exact rfl); ((conv => lhs; simp -implicitDefEqProofs [*]) <;> exact rfl); (exact rfl)) | ((with_reducible apply Wo_gx); (exact rfl); ((conv => lhs; simp -implicitDefEqProofs [*]) <;> exact rfl)) | ((with_reducible apply Wo_gsT); (exact rfl); ((conv => lhs; simp -implicitDefEqProofs [*]) <;> exact rfl)) | ((with_reducible apply Wo_gsF); (exact rfl); ((conv => lhs; simp -implicitDefEqProofs [*]) <;> exact rfl)) | ((with_reducible apply Wd_gsT); (exact rfl); ((conv => lhs; simp -implicitDefEqProofs [*]) <;> exact rfl)) | ((with_reducible apply Wd_gsF); (exact rfl); ((conv => lhs; simp -implicitDefEqProofs [*]) <;> exact rfl)) | ((with_reducible first | apply W_srdl | apply W_rdl); kernel_rfl) | ((with_reducible apply Wd_nil); exact rfl) | ((with_reducible apply inB_o); rotate_left; exact rfl) | (intro h h'; try simp [*, -h] at h'))
    all_goals simp [*]) : p := h
theorem step12 {p : Prop} (h : p := by
    repeat' (first | ((with_reducible first | apply Wo_u | apply Wo_n | apply ex2 | apply W_sc | apply W_c | apply Wd_u | apply Wd_n | apply ex4 | apply EndQ_ret | apply EndQ_normal); (conv => lhs; simp -implicitDefEqProofs [*]) <;> exact rfl) | (with_reducible first | apply Wo_nil | apply W_ss | apply W_srl | apply W_rl | apply W_sblock | apply W_block | apply W_sskip | apply W_skip | apply W_sret | apply W_ret | apply W_sexit | apply W_exit | apply thenW_n | apply thenW_r | apply thenW_e | apply inB_n | apply inB_r | apply inB_e) | ((with_reducible apply Wo_gt); (exact rfl); ((conv => lhs; simp -implicitDefEqProofs [*]) <;> exact rfl); (conv => lhs; simp -implicitDefEqProofs [*]) <;> exact rfl) | ((with_reducible apply Wo_gf); (exact rfl); ((conv => lhs; simp -implicitDefEqProofs [*]) <;> exact rfl); (exact rfl)) | ((with_reducible apply Wo_gx); (exact rfl); ((conv => lhs; simp -implicitDefEqProofs [*]) <;> exact rfl)) | ((with_reducible apply Wo_gsT); (exact rfl); ((conv => lhs; simp -implicitDefEqProofs [*]) <;> exact rfl)) | ((with_reducible apply Wo_gsF); (exact rfl); ((conv => lhs; simp -implicitDefEqProofs [*]) <;> exact rfl)) | ((with_reducible apply Wd_gsT); (exact rfl); ((conv => lhs; simp -implicitDefEqProofs [*]) <;> exact rfl)) | ((with_reducible apply Wd_gsF); (exact rfl); ((conv => lhs; simp -implicitDefEqProofs [*]) <;> exact rfl)) | ((with_reducible first | apply W_srdl | apply W_rdl); kernel_rfl) | ((with_reducible apply Wd_nil); exact rfl) | ((with_reducible apply inB_o); rotate_left; exact rfl) | (intro h h'; try simp [*, -h] at h') | with_reducible apply W_unroll)
    all_goals rfl) : p := h
theorem step13 {p : Prop} (h : p := by
    repeat' (first | ((with_reducible first | apply Wo_u | apply Wo_n | apply ex2 | apply W_sc | apply W_c | apply Wd_u | apply Wd_n | apply ex4 | apply EndQ_ret | apply EndQ_normal); (conv => lhs; simp -implicitDefEqProofs [*]) <;> exact rfl) | (with_reducible first | apply Wo_nil | apply W_ss | apply W_srl | apply W_rl | apply W_sblock | apply W_block | apply W_sskip | apply W_skip | apply W_sret | apply W_ret | apply W_sexit | apply W_exit | apply thenW_n | apply thenW_r | apply thenW_e | apply inB_n | apply inB_r | apply inB_e) | ((with_reducible apply Wo_gt); (exact rfl); ((conv => lhs; simp -implicitDefEqProofs [*]) <;> exact rfl); (conv => lhs; simp -implicitDefEqProofs [*]) <;> exact rfl) | ((with_reducible apply Wo_gf); (exact rfl); ((conv => lhs; simp -implicitDefEqProofs [*]) <;> exact rfl); (exact rfl)) | ((with_reducible apply Wo_gx); (exact rfl); ((conv => lhs; simp -implicitDefEqProofs [*]) <;> exact rfl)) | ((with_reducible apply Wo_gsT); (exact rfl); ((conv => lhs; simp -implicitDefEqProofs [*]) <;> exact rfl)) | ((with_reducible apply Wo_gsF); (exact rfl); ((conv => lhs; simp -implicitDefEqProofs [*]) <;> exact rfl)) | ((with_reducible apply Wd_gsT); (exact rfl); ((conv => lhs; simp -implicitDefEqProofs [*]) <;> exact rfl)) | ((with_reducible apply Wd_gsF); (exact rfl); ((conv => lhs; simp -implicitDefEqProofs [*]) <;> exact rfl)) | ((with_reducible first | apply W_srdl | apply W_rdl); kernel_rfl) | ((with_reducible apply Wd_nil); kernel_rfl) | ((with_reducible apply inB_o); rotate_left; exact rfl) | (intro h h'; try simp [*, -h] at h') | ((with_reducible apply Wd_gx); (exact rfl); ((conv => lhs; simp -implicitDefEqProofs [*]) <;> exact rfl)) | with_reducible apply W_unroll)
    all_goals rfl) : p := h
theorem step14 {p : Prop} (h : p := by
    repeat' (first | ((with_reducible first | apply Wo_u | apply Wo_n | apply ex2 | apply W_sc | apply W_c | apply Wd_u | apply Wd_n | apply ex4 | apply EndQ_ret | apply EndQ_normal); (conv => lhs; simp -implicitDefEqProofs [*]) <;> exact rfl) | (with_reducible first | apply Wo_nil | apply W_ss | apply W_srl | apply W_rl | apply W_sblock | apply W_block | apply W_sskip | apply W_skip | apply W_sret | apply W_ret | apply W_sexit | apply W_exit | apply thenW_n | apply thenW_r | apply thenW_e | apply inB_n | apply inB_r | apply inB_e) | ((with_reducible apply Wo_gt); (exact rfl); ((conv => lhs; simp -implicitDefEqProofs [*]) <;> exact rfl); (conv => lhs; simp -implicitDefEqProofs [*]) <;> exact rfl) | ((with_reducible apply Wo_gf); (exact rfl); ((conv => lhs; simp -implicitDefEqProofs [*]) <;> exact rfl); (exact rfl)) | ((with_reducible apply Wo_gx); (exact rfl); ((conv => lhs; simp -implicitDefEqProofs [*]) <;> exact rfl)) | ((with_reducible apply Wo_gsT); (exact rfl); ((conv => lhs; simp -implicitDefEqProofs [*]) <;> exact rfl)) | ((with_reducible apply Wo_gsF); (exact rfl); ((conv => lhs; simp -implicitDefEqProofs [*]) <;> exact rfl)) | ((with_reducible apply Wd_gsT); (exact rfl); ((conv => lhs; simp -implicitDefEqProofs [*]) <;> exact rfl)) | ((with_reducible apply Wd_gsF); (exact rfl); ((conv => lhs; simp -implicitDefEqProofs [*]) <;> exact rfl)) | ((with_reducible first | apply W_srdl | apply W_rdl); kernel_rfl) | ((with_reducible apply Wd_nil); kernel_rfl) | ((with_reducible apply inB_o); rotate_left; exact rfl) | (intro h h'; try simp [*, -h] at h') | ((with_reducible apply Wd_gx); (exact rfl); ((conv => lhs; simp -implicitDefEqProofs [*]) <;> exact rfl)))
    all_goals exact ⟨by simp, _, _, rfl, rfl, ⟨cs', hcsl, by simp [*]⟩, by simp [*], fun y h1 h2 h3 => (by have e1 : ∀ k i, y ≠ ⟨k + 1, i, 0⟩ := fun k i e => (by subst e; simp at h1); have e2 : ∀ i, y ≠ ⟨1, i, 0⟩ := fun i => e1 0 i; have e3 : ∀ i, y ≠ ⟨2, i, 0⟩ := fun i => e1 1 i; simp [*])⟩) : p := h
theorem step15 {p : Prop} (h : p := by
    repeat' (first | ((with_reducible first | apply Wo_u | apply Wo_n | apply ex2 | apply W_sc | apply W_c | apply Wd_u | apply Wd_n | apply ex4 | apply EndQ_ret | apply EndQ_normal); (conv => lhs; simp -implicitDefEqProofs [*]) <;> exact rfl) | (with_reducible first | apply Wo_nil | apply W_ss | apply W_srl | apply W_rl | apply W_sblock | apply W_block | apply W_sskip | apply W_skip | apply W_sret | apply W_ret | apply W_sexit | apply W_exit | apply thenW_n | apply thenW_r | apply thenW_e | apply inB_n | apply inB_r | apply inB_e) | ((with_reducible apply Wo_gt); (exact rfl); ((conv => lhs; simp -implicitDefEqProofs [*]) <;> exact rfl); (conv => lhs; simp -implicitDefEqProofs [*]) <;> exact rfl) | ((with_reducible apply Wo_gf); (exact rfl); ((conv => lhs; simp -implicitDefEqProofs [*]) <;> exact rfl); (exact rfl)) | ((with_reducible apply Wo_gx); (exact rfl); ((conv => lhs; simp -implicitDefEqProofs [*]) <;> exact rfl)) | ((with_reducible apply Wo_gsT); (exact rfl); ((conv => lhs; simp -implicitDefEqProofs [*]) <;> exact rfl)) | ((with_reducible apply Wo_gsF); (exact rfl); ((conv => lhs; simp -implicitDefEqProofs [*]) <;> exact rfl)) | ((with_reducible apply Wd_gsT); (exact rfl); ((conv => lhs; simp -implicitDefEqProofs [*]) <;> exact rfl)) | ((with_reducible apply Wd_gsF); (exact rfl); ((conv => lhs; simp -implicitDefEqProofs [*]) <;> exact rfl)) | ((with_reducible first | apply W_srdl | apply W_rdl); kernel_rfl) | ((with_reducible apply Wd_nil); kernel_rfl) | ((with_reducible apply inB_o); rotate_left; exact rfl) | (intro h h'; try simp [*, -h] at h') | ((with_reducible apply Wd_gx); (exact rfl); ((conv => lhs; simp -implicitDefEqProofs [*]) <;> exact rfl)))
    all_goals exact ⟨by simp, _, _, rfl, rfl, ⟨cs', hcsl, by simp [*]⟩, by simp [*], by simp [*], fun y h1 h2 h3 h4 => (by have e1 : ∀ k i, y ≠ ⟨k + 1, i, 0⟩ := fun k i e => (by subst e; simp at h1); have e2 : ∀ i, y ≠ ⟨1, i, 0⟩ := fun i => e1 0 i; have e3 : ∀ i, y ≠ ⟨2, i, 0⟩ := fun i => e1 1 i; simp [*])⟩) : p := h
theorem step16 {p : Prop} (h : p := by
    repeat' (first | ((with_reducible first | apply Wo_u | apply Wo_n | apply ex2 | apply W_sc | apply W_c | apply Wd_u | apply Wd_n | apply ex4 | apply EndQ_ret | apply EndQ_normal); (conv => lhs; simp -implicitDefEqProofs [*]) <;> exact rfl) | (with_reducible first | apply Wo_nil | apply W_ss | apply W_srl | apply W_rl | apply W_sblock | apply W_block | apply W_sskip | apply W_skip | apply W_sret | apply W_ret | apply W_sexit | apply W_exit | apply thenW_n | apply thenW_r | apply thenW_e | apply inB_n | apply inB_r | apply inB_e) | ((with_reducible apply Wo_gt); (exact rfl); ((conv => lhs; simp -implicitDefEqProofs [*]) <;> exact rfl); (conv => lhs; simp -implicitDefEqProofs [*]) <;> exact rfl) | ((with_reducible apply Wo_gf); (exact rfl); ((conv => lhs; simp -implicitDefEqProofs [*]) <;> exact rfl); (exact rfl)) | ((with_reducible apply Wo_gx); (exact rfl); ((conv => lhs; simp -implicitDefEqProofs [*]) <;> exact rfl)) | ((with_reducible apply Wo_gsT); (exact rfl); ((conv => lhs; simp -implicitDefEqProofs [*]) <;> exact rfl)) | ((with_reducible apply Wo_gsF); (exact rfl); ((conv => lhs; simp -implicitDefEqProofs [*]) <;> exact rfl)) | ((with_reducible apply Wd_gsT); (exact rfl); ((conv => lhs; simp -implicitDefEqProofs [*]) <;> exact rfl)) | ((with_reducible apply Wd_gsF); (exact rfl); ((conv => lhs; simp -implicitDefEqProofs [*]) <;> exact rfl)) | ((with_reducible first | apply W_srdl | apply W_rdl); kernel_rfl) | ((with_reducible apply Wd_nil); kernel_rfl) | ((with_reducible apply inB_o); rotate_left; exact rfl) | (intro h h'; try simp [*, -h] at h') | ((with_reducible apply Wd_gx); (exact rfl); ((conv => lhs; simp -implicitDefEqProofs [*]) <;> exact rfl)))
    all_goals exact ⟨_, by omega, k + 1, rfl, hlt, by simp [*], by simp [*], by simp [*], by rw [hF1'.out]; simp [*]⟩) : p := h
theorem step17 {p : Prop} (h : p := by
    repeat' (first | ((with_reducible first | apply Wo_u | apply Wo_n | apply ex2 | apply W_sc | apply W_c | apply Wd_u | apply Wd_n | apply ex4 | apply EndQ_ret | apply EndQ_normal); (conv => lhs; simp -implicitDefEqProofs [*]) <;> exact rfl) | (with_reducible first | apply Wo_nil | apply W_ss | apply W_srl | apply W_rl | apply W_sblock | apply W_block | apply W_sskip | apply W_skip | apply W_sret | apply W_ret | apply W_sexit | apply W_exit | apply thenW_n | apply thenW_r | apply thenW_e | apply inB_n | apply inB_r | apply inB_e) | ((with_reducible apply Wo_gt); (exact rfl); ((conv => lhs; simp -implicitDefEqProofs [*]) <;> exact rfl); (conv => lhs; simp -implicitDefEqProofs [*]) <;> exact rfl) | ((with_reducible apply Wo_gf); (exact rfl); ((conv => lhs; simp -implicitDefEqProofs [*]) <;> exact rfl); (exact rfl)) | ((with_reducible apply Wo_gx); (exact rfl); ((conv => lhs; simp -implicitDefEqProofs [*]) <;> exact rfl)) | ((with_reducible apply Wo_gsT); (exact rfl); ((conv => lhs; simp -implicitDefEqProofs [*]) <;> exact rfl)) | ((with_reducible apply Wo_gsF); (exact rfl); ((conv => lhs; simp -implicitDefEqProofs [*]) <;> exact rfl)) | ((with_reducible apply Wd_gsT); (exact rfl); ((conv => lhs; simp -implicitDefEqProofs [*]) <;> exact rfl)) | ((with_reducible apply Wd_gsF); (exact rfl); ((conv => lhs; simp -implicitDefEqProofs [*]) <;> exact rfl)) | ((with_reducible first | apply W_srdl | apply W_rdl); kernel_rfl) | ((with_reducible apply Wd_nil); kernel_rfl) | ((with_reducible apply inB_o); rotate_left; exact rfl) | (intro h h'; try simp [*, -h] at h') | ((with_reducible apply Wd_gx); (exact rfl); ((conv => lhs; simp -implicitDefEqProofs [*]) <;> exact rfl)))
    all_goals (first | rfl | simp)) : p := h
theorem step18 {p : Prop} (h : p := by
    repeat' (first | ((with_reducible first | apply Wo_u | apply Wo_n | apply ex2 | apply W_sc | apply W_c | apply Wd_u | apply Wd_n | apply ex4 | apply EndQ_ret | apply EndQ_normal); (conv => lhs; simp -implicitDefEqProofs [*]) <;> exact rfl) | (with_reducible first | apply Wo_nil | apply W_ss | apply W_srl | apply W_rl | apply W_sblock | apply W_block | apply W_sskip | apply W_skip | apply W_sret | apply W_ret | apply W_sexit | apply W_exit | apply thenW_n | apply thenW_r | apply thenW_e | apply inB_n | apply inB_r | apply inB_e) | ((with_reducible apply Wo_gt); (exact rfl); ((conv => lhs; simp -implicitDefEqProofs [*]) <;> exact rfl); (conv => lhs; simp -implicitDefEqProofs [*]) <;> exact rfl) | ((with_reducible apply Wo_gf); (exact rfl); ((conv => lhs; simp -implicitDefEqProofs [*]) <;> exact rfl); (exact rfl)) | ((with_reducible apply Wo_gx); (exact rfl); ((conv => lhs; simp -implicitDefEqProofs [*]) <;> exact rfl)) | ((with_reducible apply Wo_gsT); (exact rfl); ((conv => lhs; simp -implicitDefEqProofs [*]) <;> exact rfl)) | ((with_reducible apply Wo_gsF); (exact rfl); ((conv => lhs; simp -implicitDefEqProofs [*]) <;> exact rfl)) | ((with_reducible apply Wd_gsT); (exact rfl); ((conv => lhs; simp -implicitDefEqProofs [*]) <;> exact rfl)) | ((with_reducible apply Wd_gsF); (exact rfl); ((conv => lhs; simp -implicitDefEqProofs [*]) <;> exact rfl)) | ((with_reducible first | apply W_srdl | apply W_rdl); kernel_rfl) | ((with_reducible apply Wd_nil); kernel_rfl) | ((with_reducible apply inB_o); rotate_left; exact rfl) | (intro h h'; try simp [*, -h] at h') | ((with_reducible apply Wd_gx); (exact rfl); ((conv => lhs; simp -implicitDefEqProofs [*]) <;> exact rfl)))
    all_goals (first | rfl | simp [*])) : p := h
theorem sgo0 {p q : Prop} (hq : q) (h : RowKit.Hid q → p := by
    intro hq
    repeat' (first | ((with_reducible first | apply Wo_u | apply Wo_n | apply ex2 | apply W_sc | apply W_c | apply Wd_u | apply Wd_n | apply ex4 | apply EndQ_ret | apply EndQ_normal); (conv => lhs; simp -implicitDefEqProofs [*]) <;> exact rfl) | (with_reducible first | apply Wo_nil | apply W_ss | apply W_srl | apply W_rl | apply W_sblock | apply W_block | apply W_sskip | apply W_skip | apply W_sret | apply W_ret | apply W_sexit | apply W_exit | apply thenW_n | apply thenW_r | apply thenW_e | apply inB_n | apply inB_r | apply inB_e) | ((with_reducible apply Wo_gt); (exact rfl); ((conv => lhs; simp -implicitDefEqProofs [*]) <;> exact rfl); (conv => lhs; simp -implicitDefEqProofs [*]) <;> exact rfl) | ((with_reducible apply Wo_gf); (exact rfl); ((conv => lhs; simp -implicitDefEqProofs [*]) <;> exact rfl); (exact rfl)) | ((with_reducible apply Wo_gx); (exact rfl); ((conv => lhs; simp -implicitDefEqProofs [*]) <;> exact rfl)) | ((with_reducible apply Wo_gsT); (exact rfl); ((conv => lhs; simp -implicitDefEqProofs [*]) <;> exact rfl)) | ((with_reducible apply Wo_gsF); (exact rfl); ((conv => lhs; simp -implicitDefEqProofs [*]) <;> exact rfl)) | ((with_reducible apply Wd_gsT); (exact rfl); ((conv => lhs; simp -implicitDefEqProofs [*]) <;> exact rfl)) | ((with_reducible apply Wd_gsF); (exact rfl); ((conv => lhs; simp -implicitDefEqProofs [*]) <;> exact rfl)) | ((with_reducible first | apply W_srdl | apply W_rdl); kernel_rfl) | ((with_reducible apply Wd_nil); kernel_rfl) | ((with_reducible apply inB_o); rotate_left; exact rfl) | (intro h h'; try simp [*, -h] at h') | ((with_reducible apply Wd_gx); (exact rfl); ((conv => lhs; simp -implicitDefEqProofs [*]) <;> exact rfl)))
    all_goals exact hq.out) : p := h hq
theorem sgo1 {p q : Prop} (hq : q) (h : RowKit.Hid q → p := by
    intro hq
    repeat' (first | ((with_reducible first | apply Wo_u | apply Wo_n | apply ex2 | apply W_sc | apply W_c | apply Wd_u | apply Wd_n | apply ex4 | apply EndQ_ret | apply EndQ_normal); (conv => lhs; simp -implicitDefEqProofs [*]) <;> exact rfl) | (with_reducible first | apply Wo_nil | apply W_ss | apply W_srl | apply W_rl | apply W_sblock | apply W_block | apply W_sskip | apply W_skip | apply W_sret | apply W_ret | apply W_sexit | apply W_exit | apply thenW_n | apply thenW_r | apply thenW_e | apply inB_n | apply inB_r | apply inB_e) | ((with_reducible apply Wo_gt); (exact rfl); ((conv => lhs; simp -implicitDefEqProofs [*]) <;> exact rfl); (conv => lhs; simp -implicitDefEqProofs [*]) <;> exact rfl) | ((with_reducible apply Wo_gf); (exact rfl); ((conv => lhs; simp -implicitDefEqProofs [*]) <;> exact rfl); (exact rfl)) | ((with_reducible apply Wo_gx); (exact rfl); ((conv => lhs; simp -implicitDefEqProofs [*]) <;> exact rfl)) | ((with_reducible apply Wo_gsT); (exact rfl); ((conv => lhs; simp -implicitDefEqProofs [*]) <;> exact rfl)) | ((with_reducible apply Wo_gsF); (exact rfl); ((conv => lhs; simp -implicitDefEqProofs [*]) <;> exact rfl)) | ((with_reducible apply Wd_gsT); (exact rfl); ((conv => lhs; simp -implicitDefEqProofs [*]) <;> exact rfl)) | ((with_reducible apply Wd_gsF); (exact rfl); ((conv => lhs; simp -implicitDefEqProofs [*]) <;> exact rfl)) | ((with_reducible first | apply W_srdl | apply W_rdl); kernel_rfl) | ((with_reducible apply Wd_nil); exact rfl) | ((with_reducible apply inB_o); rotate_left; exact rfl) | (intro h h'; try simp [*, -h] at h'))
    all_goals exact hq.out) : p := h hq
theorem unkey {o : Option (AV × Hp)} {v : AV} {R : Hp → Prop} (h : ∃ z hp', o = some (z, hp') ∧ (z = v ∧ R hp')) : ∃ hp', o = some (v, hp') ∧ R hp' := by
  obtain ⟨z, hp', h1, rfl, h2⟩ := h
  exact ⟨hp', h1, h2⟩
end Go.Ab
