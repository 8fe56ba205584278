/- Code, functions, calls. No program of Go is named here. -/
import Derived.Test.YtmfhdhiaokejdaaAb17
namespace Go.Ab
open Go
set_option linter.unusedSimpArgs false
set_option linter.unusedVariables false

section
variable {P : Program} {K : Nat → Prop} {k N : Nat} {B : Base} {E : Cfg} {call : Orc}

theorem evRegion_ok (hm : P.follows .mixedOrders = true) (hE : EqLaw P E.eq) (hC : OrcOk P call) {Q : Exit → Act → World → Prop} {ops : Array Oper} {draw : Bool} {st st' : AS} {a : Act} {w : World} {id : Nat} (hd : ∀ o ∈ ops.toList, ∀ x, o.dst = some x → x < N)
    (S : StR k N K B st a w) (h : evRegion P E k call ops draw st = some st') (hQ : ∀ a' w', StR k N K B st' a' w' → Q .normal a' w') : (Code.region id ops draw).wp P Q a w := by
  unfold evRegion at h
  cases draw with
  | true =>
    simp only [if_true] at h
    split at h
    · rename_i st1 fs hr
      split at h
      · rename_i hc
        simp only [Bool.and_eq_true] at hc
        cases h
        exact region_any hm hE hC hd S hr hc.1 hc.2 hQ
      · cases h
    · cases h
  | false =>
    simp only [Bool.false_eq_true, if_false] at h
    exact region_text hE hC hd S h hQ

open Classical in
noncomputable def least (p : Nat → Prop) : Nat := if h : ∃ n, p n ∧ ∀ m, p m → n ≤ m then Classical.choose h else 0
theorem least_spec {p : Nat → Prop} (h : ∃ n, p n) : p (least p) ∧ ∀ m, p m → least p ≤ m := by
  have hex : ∃ n, p n ∧ ∀ m, p m → n ≤ m := by
    obtain ⟨n, hn⟩ := h
    induction n using Nat.strongRecOn with
    | _ n ih =>
      by_cases hc : ∃ m, m < n ∧ p m
      · obtain ⟨m, hm, hp⟩ := hc
        exact ih m hm hp
      · exact ⟨n, hn, fun m hm => Nat.le_of_not_lt fun hlt => hc ⟨m, hlt, hm⟩⟩
  unfold least
  rw [dif_pos hex]
  exact Classical.choose_spec hex

def exOf : Ex → Exit
  | .normal => .normal
  | .exit id => .exit id
  | .ret => .ret

theorem evC_ok (hm : P.follows .mixedOrders = true) (hE : EqLaw P E.eq) (hC : OrcOk P call) : ∀ (n : Nat) (c : Code) {Q : Exit → Act → World → Prop} {st st' : AS} {e : Ex} {a : Act} {w : World}, slotsIn N c = true → StR k N K B st a w → evC P E k call n c st = some (e, st') →
    (∀ a' w', StR k N K B st' a' w' → Q (exOf e) a' w') → c.wp P Q a w
  | 0, c, Q, st, st', e, a, w, _, _, h, _ => by simp [evC] at h
  | n + 1, c, Q, st, st', e, a, w, hs, S, h, hQ => by
    cases c with
    | skip =>
      simp only [evC, Option.some.injEq, Prod.mk.injEq] at h
      obtain ⟨rfl, rfl⟩ := h
      exact wp_skip (hQ a w S)
    | label l =>
      simp only [evC, Option.some.injEq, Prod.mk.injEq] at h
      obtain ⟨rfl, rfl⟩ := h
      exact wp_label (hQ a w S)
    | region id ops d =>
      simp only [evC] at h
      cases hr : evRegion P E k call ops d st with
      | none => rw [hr] at h; cases h
      | some s =>
        rw [hr] at h
        simp only [Option.map_some, Option.some.injEq, Prod.mk.injEq] at h
        obtain ⟨rfl, rfl⟩ := h
        refine evRegion_ok hm hE hC (fun o ho x hx => ?_) S hr hQ
        simp only [slotsIn, List.all_eq_true, Bool.and_eq_true] at hs
        have := (hs o ho).1
        rw [hx] at this
        simpa using this
    | seq x y =>
      simp only [slotsIn, Bool.and_eq_true] at hs
      simp only [evC] at h
      split at h
      · rename_i s h1
        exact wp_seq (evC_ok hm hE hC n x hs.1 S h1 fun a' w' S' => evC_ok hm hE hC n y hs.2 S' h hQ)
      · rename_i hne
        refine wp_seq (evC_ok hm hE hC n x hs.1 S h fun a' w' S' => ?_)
        have := hQ a' w' S'
        cases e with
        | normal => exact (hne st' h).elim
        | exit id => exact this
        | ret => exact this
    | cond c x y =>
      simp only [slotsIn, Bool.and_eq_true] at hs
      simp only [evC] at h
      split at h
      · rename_i t ht
        have hc : a.eval c = .bool t := by
          obtain ⟨I, m, G, E0, hf, hsz, hdf⟩ := S
          have := opA_ok hf c
          rw [ht] at this
          simpa only [Rep] using this
        refine wp_cond hc ?_
        cases t with
        | true => exact evC_ok hm hE hC n x hs.1.2 S (by simpa using h) hQ
        | false => exact evC_ok hm hE hC n y hs.2 S (by simpa using h) hQ
      · cases h
    | block id x =>
      simp only [slotsIn] at hs
      simp only [evC] at h
      split at h
      · rename_i i s h1
        refine wp_block (evC_ok hm hE hC n x hs S h1 fun a' w' S' => ?_)
        simp only [exOf, Exit.inBlock]
        split at h
        · rename_i hi
          simp only [Option.some.injEq, Prod.mk.injEq] at h
          obtain ⟨rfl, rfl⟩ := h
          rw [if_pos hi]
          exact hQ a' w' S'
        · rename_i hi
          simp only [Option.some.injEq, Prod.mk.injEq] at h
          obtain ⟨rfl, rfl⟩ := h
          rw [if_neg hi]
          exact hQ a' w' S'
      · rename_i hne
        refine wp_block (evC_ok hm hE hC n x hs S h fun a' w' S' => ?_)
        have := hQ a' w' S'
        cases e with
        | normal => exact this
        | exit i => exact (hne i st' h).elim
        | ret => exact this
    | loop x =>
      simp only [slotsIn] at hs
      refine wp_loop (I := fun a w => ∃ g s, g ≤ n + 1 ∧ StR k N K B s a w ∧ evC P E k call g (.loop x) s = some (e, st'))
        (μ := fun a w => least fun g => ∃ s, g ≤ n + 1 ∧ StR k N K B s a w ∧ evC P E k call g (.loop x) s = some (e, st')) ⟨n + 1, st, Nat.le_refl _, S, h⟩ ?_
      intro a w hI
      obtain ⟨⟨s, hg, S, h⟩, _⟩ := least_spec (p := fun g => ∃ s, g ≤ n + 1 ∧ StR k N K B s a w ∧ evC P E k call g (.loop x) s = some (e, st')) hI
      generalize hgl : least (fun g => ∃ s, g ≤ n + 1 ∧ StR k N K B s a w ∧ evC P E k call g (.loop x) s = some (e, st')) = g at hg h
      cases g with
      | zero => simp [evC] at h
      | succ g' =>
        have hlt : g' < n + 1 := by omega
        simp only [evC] at h
        split at h
        · rename_i s1 h1
          refine evC_ok hm hE hC g' x hs S h1 fun a' w' S' => ⟨⟨g', s1, by omega, S', h⟩, ?_⟩
          have := (least_spec (p := fun g => ∃ s, g ≤ n + 1 ∧ StR k N K B s a' w' ∧ evC P E k call g (.loop x) s = some (e, st')) ⟨g', s1, by omega, S', h⟩).2 g' ⟨s1, by omega, S', h⟩
          exact Nat.lt_succ_of_le this
        · rename_i hne
          refine evC_ok hm hE hC g' x hs S h fun a' w' S' => ?_
          have := hQ a' w' S'
          cases e with
          | normal => exact (hne st' h).elim
          | exit i => exact this
          | ret => exact this
    | exit id =>
      simp only [evC, Option.some.injEq, Prod.mk.injEq] at h
      obtain ⟨rfl, rfl⟩ := h
      exact wp_exit (hQ a w S)
    | ret =>
      simp only [evC, Option.some.injEq, Prod.mk.injEq] at h
      obtain ⟨rfl, rfl⟩ := h
      exact wp_ret (hQ a w S)
    | _ => simp [evC] at h
termination_by n => n
end
end Go.Ab
