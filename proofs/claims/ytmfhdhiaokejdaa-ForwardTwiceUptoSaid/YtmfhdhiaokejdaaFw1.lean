/- forward.copies.set and copied: what they come to, plainly. Printed by a program (wip/tfw.py). -/
import Derived.Test.YtmfhdhiaokejdaaFw
namespace Go.Proofs.Ytmfhdhiaokejdaa
open Go Go.Ab
set_option linter.unusedSimpArgs false
set_option linter.unusedVariables false
theorem forget_len (l : List Int) (d : Nat) : (fwdForget l d).length = l.length := by simp [fwdForget]
theorem forget_get (l : List Int) (d v : Nat) : (fwdForget l d)[v]? = if v = d ∧ d < l.length then some (d : Int) else (l[v]?).map fun x => if x = (d : Int) then (v : Int) else x := by
  unfold fwdForget
  rw [List.getElem?_set, List.length_mapIdx]
  by_cases h : d = v
  · subst h
    by_cases hd : d < l.length
    · simp [hd]
    · simp [hd, List.getElem?_eq_none (Nat.le_of_not_lt hd)]
  · have h' : v ≠ d := fun e => h e.symm
    simp [h, h', List.getElem?_mapIdx]
theorem forget_set (l : List Int) (d : Nat) : fwdForget (l.set d d) d = fwdForget l d := by
  apply List.ext_getElem?
  intro v
  rw [forget_get, forget_get, List.length_set, List.getElem?_set]
  by_cases h : v = d
  · subst h
    by_cases hd : v < l.length
    · simp [hd]
    · simp [hd, List.getElem?_eq_none (Nat.le_of_not_lt hd)]
  · have h' : d ≠ v := fun e => h e.symm
    simp [h, h']
theorem nodup_erase {S : List Int} (h : S.Nodup) {j : Nat} {x : Int} (hj : S[j]? = some x) (n : Int) : n ∈ S.eraseIdx j ↔ n ∈ S ∧ n ≠ x := by
  induction S generalizing j with
  | nil => simp at hj
  | cons a S ih =>
    rw [List.nodup_cons] at h
    cases j with
    | zero =>
      simp at hj
      subst hj
      simp only [List.eraseIdx_cons_zero, List.mem_cons]
      constructor
      · intro hn
        exact ⟨.inr hn, fun e => h.1 (e ▸ hn)⟩
      · rintro ⟨hn | hn, hne⟩
        · exact (hne hn).elim
        · exact hn
    | succ j =>
      have hj' : S[j]? = some x := by simpa using hj
      simp only [List.eraseIdx_cons_succ, List.mem_cons, ih h.2 hj']
      constructor
      · rintro (hn | ⟨hn, hne⟩)
        · subst hn
          exact ⟨.inl rfl, fun e => h.1 (by subst e; exact List.mem_of_getElem? hj')⟩
        · exact ⟨.inr hn, hne⟩
      · rintro ⟨hn | hn, hne⟩
        · exact .inl hn
        · exact .inr ⟨hn, hne⟩
theorem nodup_eraseIdx {S : List Int} (h : S.Nodup) (j : Nat) : (S.eraseIdx j).Nodup := h.sublist (List.eraseIdx_sublist _ _)
/-- A register that is its own: nothing changes. -/
theorem CpOk.same {M : MM} {l : List Int} {to : List (Option Nat)} (h : CpOk M l to) {d : Nat} (hd : l[d]? = some (d : Int)) : l.set d d = l := by
  apply List.ext_getElem?
  intro v
  rw [List.getElem?_set]
  split
  · rename_i e
    subst e
    split
    · exact hd.symm
    · rename_i hlt; rw [List.getElem?_eq_none (Nat.le_of_not_lt hlt)]
  · rfl
/-- The register d, a copy of s, is its own again. -/
theorem CpOk.own {M : MM} {l : List Int} {to : List (Option Nat)} (h : CpOk M l to) {d s b : Nat} (hd : l[d]? = some (s : Int)) (hsd : s ≠ d) (hb : to[s]? = some (some b)) {es' : Array MapEntry} {clock : Nat} {S : List Int} {j : Nat}
    {es : Array MapEntry} (hM : M b = some (.map es clock)) (hok : MapOk es clock S) (hS : S.Nodup) (hmem : ∀ n : Int, n ∈ S ↔ ∃ v : Nat, n = v ∧ l[v]? = some (s : Int) ∧ v ≠ s) (hj : S[j]? = some (d : Int)) (hok' : MapOk es' clock (S.eraseIdx j)) :
    CpOk (mset M b (.map es' clock)) (l.set d d) to := by
  have hdl : d < l.length := (List.getElem?_eq_some_iff.1 hd).1
  have hget : ∀ v : Nat, (l.set d d)[v]? = if v = d then some (d : Int) else l[v]? := by
    intro v
    rw [List.getElem?_set]
    by_cases e : d = v
    · subst e; simp [hdl]
    · have e' : v ≠ d := fun x => e x.symm
      simp [e, e']
  refine ⟨by rw [h.len, List.length_set], fun v x hx => ?_, fun t ht v hv => ?_, fun t b' ht => ?_, h.inj⟩
  · rw [List.length_set]
    rw [hget] at hx
    split at hx
    · cases hx; omega
    · exact h.rng v x hx
  · rw [hget] at hv
    split at hv
    · rename_i e
      have : (d : Int) = t := Option.some.inj hv
      omega
    · exact h.nil t ht v hv
  · obtain ⟨es1, c1, S1, h1, h2, h3, h4⟩ := h.map t b' ht
    by_cases e : b' = b
    · subst e
      have := h.inj _ _ _ ht hb
      subst this
      rw [hM] at h1
      cases h1
      refine ⟨es', clock, S.eraseIdx j, mset_same _ _ _, hok', nodup_eraseIdx hS j, fun n => ?_⟩
      rw [nodup_erase hS hj, hmem]
      constructor
      · rintro ⟨⟨v, rfl, hv, hne⟩, hnd⟩
        have : v ≠ d := fun e => hnd (by rw [e])
        exact ⟨v, rfl, by rw [hget, if_neg this]; exact hv, hne⟩
      · rintro ⟨v, rfl, hv, hne⟩
        rw [hget] at hv
        split at hv
        · have : (d : Int) = t := Option.some.inj hv
          omega
        · rename_i hvd
          exact ⟨⟨v, rfl, hv, hne⟩, fun e => hvd (by omega)⟩
    · refine ⟨es1, c1, S1, by rw [mset_other M _ e]; exact h1, h2, h3, fun n => ?_⟩
      have hts : t ≠ s := fun x => e (by rw [x, hb] at ht; cases ht; rfl)
      rw [h4]
      constructor
      · rintro ⟨v, rfl, hv, hne⟩
        have : v ≠ d := fun e2 => by rw [e2, hd] at hv; have := Option.some.inj hv; omega
        exact ⟨v, rfl, by rw [hget, if_neg this]; exact hv, hne⟩
      · rintro ⟨v, rfl, hv, hne⟩
        rw [hget] at hv
        split at hv
        · have : (d : Int) = t := Option.some.inj hv
          omega
        · exact ⟨v, rfl, hv, hne⟩
/-- Nothing is a copy of d any more. -/
theorem CpOk.forget {M M' : MM} {l : List Int} {to : List (Option Nat)} (h : CpOk M l to) {d : Nat} (hd : l[d]? = some (d : Int)) (hM : ∀ b o, M b = some o → M' b = some o) : CpOk M' (fwdForget l d) (to.set d none) := by
  have hdl : d < l.length := (List.getElem?_eq_some_iff.1 hd).1
  have hget : ∀ v : Nat, (fwdForget l d)[v]? = (l[v]?).map fun x => if x = (d : Int) then (v : Int) else x := by
    intro v
    rw [forget_get]
    split
    · rename_i e
      obtain ⟨rfl, _⟩ := e
      rw [hd]; simp
    · rfl
  refine ⟨by rw [List.length_set, h.len, forget_len], fun v x hx => ?_, fun t ht v hv => ?_, fun t b' ht => ?_, fun s s' b h1 h2 => ?_⟩
  · rw [forget_len]
    rw [hget] at hx
    cases hl : l[v]? with
    | none => rw [hl] at hx; cases hx
    | some y =>
      rw [hl] at hx
      have hlt := (List.getElem?_eq_some_iff.1 hl).1
      have hy := h.rng v y hl
      simp only [Option.map_some, Option.some.injEq] at hx
      split at hx
      · omega
      · omega
  · rw [hget] at hv
    cases hl : l[v]? with
    | none => rw [hl] at hv; cases hv
    | some y =>
      rw [hl] at hv
      simp only [Option.map_some, Option.some.injEq] at hv
      split at hv
      · omega
      · rename_i hyd
        rw [List.getElem?_set] at ht
        split at ht
        · rename_i e; subst e; omega
        · exact h.nil t ht v (by rw [hl, hv])
  · rw [List.getElem?_set] at ht
    split at ht
    · split at ht <;> cases ht
    · rename_i e
      obtain ⟨es1, c1, S1, h1, h2, h3, h4⟩ := h.map t b' ht
      refine ⟨es1, c1, S1, hM _ _ h1, h2, h3, fun n => ?_⟩
      rw [h4]
      constructor
      · rintro ⟨v, rfl, hv, hne⟩
        refine ⟨v, rfl, ?_, hne⟩
        rw [hget, hv]
        simp only [Option.map_some, Option.some.injEq]
        rw [if_neg (by omega)]
      · rintro ⟨v, rfl, hv, hne⟩
        refine ⟨v, rfl, ?_, hne⟩
        rw [hget] at hv
        cases hl : l[v]? with
        | none => rw [hl] at hv; cases hv
        | some y =>
          rw [hl] at hv
          simp only [Option.map_some, Option.some.injEq] at hv
          split at hv
          · omega
          · rw [hv]
  · rw [List.getElem?_set] at h1 h2
    split at h1
    · split at h1 <;> cases h1
    split at h2
    · split at h2 <;> cases h2
    exact h.inj s s' b h1 h2
end Go.Proofs.Ytmfhdhiaokejdaa
