/- Law 31: what forwarding does, plainly. -/
import Derived.Test.YtmfhdhiaokejdaaFy
namespace Go.Proofs.Ytmfhdhiaokejdaa
open Go Go.Ab
set_option linter.unusedSimpArgs false
set_option linter.unusedVariables false
/-- What a register is a copy of is a copy of nothing. -/
def Idem (l : List Int) : Prop := ∀ (v : Nat) x, l[v]? = some x → l[x.toNat]? = some x
theorem idL_idem (n : Nat) : Idem (idL n) := by
  intro v x h
  rw [idL_get] at h
  split at h
  · cases h
    rw [idL_get]
    simp only [Int.toNat_natCast]
    rw [if_pos (by assumption)]
  · cases h
theorem forget_idem {l : List Int} {n : Nat} (hr : Rng l n) (h : Idem l) (d : Nat) : Idem (fwdForget l d) := by
  intro v x hx
  rw [forget_get] at hx
  have own : ∀ u : Nat, u < l.length → l[u]? = some (d : Int) ∨ u = d → (fwdForget l d)[u]? = some (u : Int) := by
    intro u hu hd
    rw [forget_get]
    by_cases e : u = d
    · subst e; rw [if_pos ⟨rfl, hu⟩]
    · rw [if_neg (fun h => e h.1)]
      rcases hd with hd | hd
      · rw [hd]; simp
      · exact (e hd).elim
  split at hx
  · rename_i e
    cases hx
    rw [Int.toNat_natCast]
    exact own d e.2 (.inr rfl)
  · rename_i hne
    cases hl : l[v]? with
    | none => rw [hl] at hx; cases hx
    | some y =>
      rw [hl] at hx
      have hlt := (List.getElem?_eq_some_iff.1 hl).1
      simp only [Option.map_some, Option.some.injEq] at hx
      split at hx
      · rename_i hy
        subst hx hy
        rw [Int.toNat_natCast]
        exact own v hlt (.inl hl)
      · rename_i hyd
        subst hx
        have hy := hr.2 v y hl
        have hyy := h v y hl
        rw [forget_get, if_neg (fun e => hyd (by omega)), hyy]
        simp [hyd]
theorem step_idem {l : List Int} {n : Nat} (hr : Rng l n) (h : Idem l) {t : Tac} (ht : t.okR n) : Idem (fwdStep l t) := by
  unfold fwdStep
  split
  · rename_i hs
    have hsl := ht.2 hs
    split
    · rename_i hop
      have ha := uses_a ht (.inl hop.1)
      have hat := atL_get hr ha.1 ha.2
      have haa := h _ _ hat.1
      have hf := forget_idem hr h t.sets.toNat
      have hlen : (fwdForget l t.sets.toNat).length = n := by rw [forget_len, hr.1]
      have hra : (fwdForget l t.sets.toNat)[(atL l t.a).toNat]? = some (atL l t.a) := by
        rw [forget_get, if_neg (fun e => hop.2 (by omega)), haa]
        simp only [Option.map_some, Option.some.injEq]
        rw [if_neg (by have := hop.2; omega)]
      intro v x hx
      rw [List.getElem?_set] at hx ⊢
      split at hx
      · split at hx
        · cases hx
          rw [if_neg (by have := hop.2; omega)]
          exact hra
        · cases hx
      · rename_i hvd
        have hvl := (List.getElem?_eq_some_iff.1 hx).1
        have hxr := (forget_rng hr t.sets.toNat).2 v x hx
        have hxd : ¬ t.sets.toNat = x.toNat := by
          intro e
          rw [forget_get, if_neg (fun h => hvd h.1.symm)] at hx
          cases hl : l[v]? with
          | none => rw [hl] at hx; cases hx
          | some y =>
            rw [hl] at hx
            simp only [Option.map_some, Option.some.injEq] at hx
            split at hx
            · omega
            · rename_i hyd; omega
        rw [if_neg hxd]
        exact hf v x hx
    · exact forget_idem hr h _
  · exact h
theorem stN_idem {n : Nat} {ins : List Tac} (hi : ∀ t ∈ ins, t.okR n) : ∀ k, k ≤ ins.length → Idem (stN (idL n) ins k)
  | 0, _ => by rw [stN_zero]; exact idL_idem n
  | k + 1, hk => by
    have hg : ins[k]? = some ins[k] := List.getElem?_eq_getElem (by omega)
    rw [stN_succ hg]
    exact step_idem (stN_rng (idL_rng n) hi k (by omega)) (stN_idem hi k (by omega)) (hi _ (List.getElem_mem _))
theorem atL_idem {l : List Int} {n : Nat} (hr : Rng l n) (h : Idem l) {x : Int} (h0 : 0 ≤ x) (h1 : x < n) : atL l (atL l x) = atL l x := by
  have hat := atL_get hr h0 h1
  have := h _ _ hat.1
  unfold atL at this ⊢
  rw [List.getD_eq_getElem?_getD, this]; rfl
theorem fwdTac_ok {l : List Int} {n : Nat} (hr : Rng l n) {t : Tac} (ht : t.okR n) : (fwdTac l t).okR n := by
  refine ⟨fun x hx => ?_, fun hs => ?_⟩
  · unfold Tac.uses usesL at hx
    rw [fwdTac_op] at hx
    by_cases h1 : t.op = 2 ∨ t.op = 5 ∨ t.op = 6 ∨ t.op = 9
    · rw [if_pos h1] at hx
      have ha := uses_a ht (by omega)
      have hfa : (fwdTac l t).a = atL l t.a := by unfold fwdTac; rw [if_pos h1]
      simp only [List.mem_singleton] at hx
      subst hx
      rw [hfa]
      exact (atL_get hr ha.1 ha.2).2
    · rw [if_neg h1] at hx
      by_cases h2 : t.op = 3 ∨ t.op = 7
      · rw [if_pos h2] at hx
        have ha := uses_a ht (by omega)
        have hb := uses_b ht h2
        have hfa : (fwdTac l t).a = atL l t.a := by unfold fwdTac; rw [if_neg h1, if_pos h2]
        have hfb : (fwdTac l t).b = atL l t.b := by unfold fwdTac; rw [if_neg h1, if_pos h2]
        simp only [List.mem_cons, List.not_mem_nil, or_false] at hx
        rcases hx with rfl | rfl
        · rw [hfa]; exact (atL_get hr ha.1 ha.2).2
        · rw [hfb]; exact (atL_get hr hb.1 hb.2).2
      · rw [if_neg h2] at hx; cases hx
  · rw [fwdTac_sets] at hs ⊢
    exact ht.2 hs
theorem fwdTac_twice {l : List Int} {n : Nat} (hr : Rng l n) (h : Idem l) {t : Tac} (ht : t.okR n) : fwdTac l (fwdTac l t) = fwdTac l t := by
  by_cases h1 : t.op = 2 ∨ t.op = 5 ∨ t.op = 6 ∨ t.op = 9
  · have ha := uses_a ht (by omega)
    have e : fwdTac l t = { t with a := atL l t.a } := by unfold fwdTac; rw [if_pos h1]
    rw [e]
    unfold fwdTac
    rw [if_pos h1]
    simp only [atL_idem hr h ha.1 ha.2]
  · by_cases h2 : t.op = 3 ∨ t.op = 7
    · have ha := uses_a ht (by omega)
      have hb := uses_b ht h2
      have e : fwdTac l t = { t with a := atL l t.a, b := atL l t.b } := by unfold fwdTac; rw [if_neg h1, if_pos h2]
      rw [e]
      unfold fwdTac
      rw [if_neg h1, if_pos h2]
      simp only [atL_idem hr h ha.1 ha.2, atL_idem hr h hb.1 hb.2]
    · have e : fwdTac l t = t := by unfold fwdTac; rw [if_neg h1, if_neg h2]
      rw [e, e]
theorem fwdStep_twice {l : List Int} {n : Nat} (hr : Rng l n) (h : Idem l) {t : Tac} (ht : t.okR n) : fwdStep l (fwdTac l t) = fwdStep l t := by
  unfold fwdStep
  rw [fwdTac_sets, fwdTac_op]
  by_cases hop : t.op = 2
  · have ha := uses_a ht (.inl hop)
    rw [fwdTac_a hop, atL_idem hr h ha.1 ha.2]
  · simp [hop]
theorem outs_get (l0 : List Int) (ins : List Tac) (k : Nat) : (outs l0 ins)[k]? = (ins[k]?).map (fwdTac (stN l0 ins k)) := by simp [outs, List.getElem?_mapIdx]
theorem outs_len (l0 : List Int) (ins : List Tac) : (outs l0 ins).length = ins.length := by simp [outs]
theorem outs_ok {n : Nat} {ins : List Tac} (hi : ∀ t ∈ ins, t.okR n) : ∀ t ∈ outs (idL n) ins, t.okR n := by
  intro t ht
  obtain ⟨k, hk⟩ := List.getElem?_of_mem ht
  rw [outs_get] at hk
  cases hg : ins[k]? with
  | none => rw [hg] at hk; cases hk
  | some u =>
    rw [hg] at hk
    cases hk
    have hkl := (List.getElem?_eq_some_iff.1 hg).1
    exact fwdTac_ok (stN_rng (idL_rng n) hi k (by omega)) (hi u (List.mem_of_getElem? hg))
theorem stN_twice {n : Nat} {ins : List Tac} (hi : ∀ t ∈ ins, t.okR n) : ∀ k, k ≤ ins.length → stN (idL n) (outs (idL n) ins) k = stN (idL n) ins k
  | 0, _ => by rw [stN_zero, stN_zero]
  | k + 1, hk => by
    have hg : ins[k]? = some ins[k] := List.getElem?_eq_getElem (by omega)
    have hg2 : (outs (idL n) ins)[k]? = some (fwdTac (stN (idL n) ins k) ins[k]) := by rw [outs_get, hg]; rfl
    rw [stN_succ hg, stN_succ hg2, stN_twice hi k (by omega)]
    exact fwdStep_twice (stN_rng (idL_rng n) hi k (by omega)) (stN_idem hi k (by omega)) (hi _ (List.getElem_mem _))
theorem outs_twice {n : Nat} {ins : List Tac} (hi : ∀ t ∈ ins, t.okR n) : outs (idL n) (outs (idL n) ins) = outs (idL n) ins := by
  apply List.ext_getElem?
  intro k
  rw [outs_get, outs_get]
  cases hg : ins[k]? with
  | none => rfl
  | some u =>
    have hkl := (List.getElem?_eq_some_iff.1 hg).1
    simp only [Option.map_some, Option.some.injEq]
    rw [stN_twice hi k (by omega)]
    exact fwdTac_twice (stN_rng (idL_rng n) hi k (by omega)) (stN_idem hi k (by omega)) (hi u (List.mem_of_getElem? hg))
theorem fwdBlk_ok {n : Nat} {b : Blk} (h : b.okR n) : (fwdBlk n b).okR n := by
  refine ⟨?_, fun he => ?_⟩
  · simp only [fwdBlk, Int.toNat_natCast]
    exact outs_ok h.ins
  · have he' : b.en = 2 := he
    have hv := h.v he'
    simp only [fwdBlk, Int.toNat_natCast]
    rw [if_pos he']
    exact (atL_get (stN_rng (idL_rng n) h.ins b.ins.length (Nat.le_refl _)) hv.1 hv.2).2
theorem fwdBlk_len (n : Int) (b : Blk) : (fwdBlk n b).ins.length = b.ins.length := by simp [fwdBlk, outs_len]
theorem fwdBlk_twice {n : Nat} {b : Blk} (h : b.okR n) : fwdBlk n (fwdBlk n b) = fwdBlk n b := by
  apply Blk.ext'
  · simp only [fwdBlk, Int.toNat_natCast]; exact outs_twice h.ins
  · rfl
  · simp only [fwdBlk, Int.toNat_natCast, outs_len]
    by_cases he : b.en = 2
    · have hv := h.v he
      rw [if_pos he, if_pos he, stN_twice h.ins b.ins.length (Nat.le_refl _)]
      exact atL_idem (stN_rng (idL_rng n) h.ins b.ins.length (Nat.le_refl _)) (stN_idem h.ins b.ins.length (Nat.le_refl _)) hv.1 hv.2
    · rw [if_neg he, if_neg he]
  · rfl
  · rfl
end Go.Proofs.Ytmfhdhiaokejdaa
