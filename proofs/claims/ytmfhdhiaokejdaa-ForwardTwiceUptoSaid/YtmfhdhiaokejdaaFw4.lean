/- forward.copies.copied, walked. Printed by a program (wip/tfw.py). -/
import Derived.Test.YtmfhdhiaokejdaaFw3
namespace Go.Proofs.Ytmfhdhiaokejdaa
open Go Go.Ab
set_option linter.unusedSimpArgs false
set_option linter.unusedVariables false
theorem CpOk.fresh {M : MM} {l : List Int} {to : List (Option Nat)} (h : CpOk M l to) {a b : Nat} (ha : to[a]? = some none) (hb : M b = none) : CpOk (mset M b (.map #[] 0)) l (to.set a (some b)) := by
  have hal : a < to.length := (List.getElem?_eq_some_iff.1 ha).1
  have hold : ∀ (t b' : Nat), to[t]? = some (some b') → b' ≠ b := fun t b' ht e => by
    obtain ⟨es, clock, S, h1, _⟩ := h.map t b' ht
    rw [e, hb] at h1
    cases h1
  have hgt : ∀ t : Nat, (to.set a (some b))[t]? = if t = a then some (some b) else to[t]? := by
    intro t
    rw [List.getElem?_set]
    by_cases e : a = t
    · subst e; simp [hal]
    · have e' : t ≠ a := fun x => e x.symm
      simp [e, e']
  refine ⟨by rw [List.length_set, h.len], h.rng, fun t ht v hv => ?_, fun t b' ht => ?_, fun s s' b' h1 h2 => ?_⟩
  · rw [hgt] at ht
    split at ht
    · cases ht
    · exact h.nil t ht v hv
  · rw [hgt] at ht
    split at ht
    · rename_i e
      subst e
      cases ht
      refine ⟨#[], 0, [], mset_same _ _ _, .empty, List.nodup_nil, fun n => ?_⟩
      constructor
      · intro hn; cases hn
      · rintro ⟨v, rfl, hv, hne⟩
        exact (hne (h.nil t ha v hv)).elim
    · obtain ⟨es, clock, S, h1, h2⟩ := h.map t b' ht
      exact ⟨es, clock, S, by rw [mset_other M _ (hold t b' ht)]; exact h1, h2⟩
  · rw [hgt] at h1 h2
    split at h1
    · rename_i e1
      cases h1
      split at h2
      · rename_i e2; rw [e1, e2]
      · exact (hold s' b h2 rfl).elim
    · split at h2
      · cases h2; exact (hold s b h1 rfl).elim
      · exact h.inj s s' b' h1 h2
theorem CpOk.add {M : MM} {l : List Int} {to : List (Option Nat)} (h : CpOk M l to) {d a b : Nat} (hd : l[d]? = some (d : Int)) (had : a ≠ d) (hal : a < l.length) (hb : to[a]? = some (some b)) {es es' : Array MapEntry} {clock clock' : Nat} {S : List Int}
    (hM : M b = some (.map es clock)) (hS : S.Nodup) (hmem : ∀ n : Int, n ∈ S ↔ ∃ v : Nat, n = v ∧ l[v]? = some (a : Int) ∧ v ≠ a) (hok' : MapOk es' clock' (S ++ [(d : Int)])) : CpOk (mset M b (.map es' clock')) (l.set d a) to := by
  have hdl : d < l.length := (List.getElem?_eq_some_iff.1 hd).1
  have hget : ∀ v : Nat, (l.set d a)[v]? = if v = d then some (a : Int) else l[v]? := by
    intro v
    rw [List.getElem?_set]
    by_cases e : d = v
    · subst e; simp [hdl]
    · have e' : v ≠ d := fun x => e x.symm
      simp [e, e']
  refine ⟨by rw [h.len, List.length_set], fun v x hx => ?_, fun t ht v hv => ?_, fun t b' ht => ?_, h.inj⟩
  · rw [List.length_set]
    rw [hget] at hx
    split at hx
    · cases hx; omega
    · exact h.rng v x hx
  · rw [hget] at hv
    split at hv
    · have : (a : Int) = t := Option.some.inj hv
      have e : a = t := by omega
      subst e
      rw [hb] at ht
      cases ht
    · exact h.nil t ht v hv
  · obtain ⟨es1, c1, S1, h1, h2, h3, h4⟩ := h.map t b' ht
    by_cases e : b' = b
    · subst e
      have := h.inj _ _ _ ht hb
      subst this
      have hdS : (d : Int) ∉ S := by
        intro hin
        obtain ⟨v, hv, hl, _⟩ := (hmem d).1 hin
        have : v = d := by omega
        subst this
        rw [hd] at hl
        have := Option.some.inj hl
        omega
      refine ⟨es', clock', S ++ [(d : Int)], mset_same _ _ _, hok', ?_, fun n => ?_⟩
      · exact List.nodup_append.2 ⟨hS, by simp, fun x hx y hy => by simp only [List.mem_singleton] at hy; subst hy; intro e; subst e; exact hdS hx⟩
      · rw [List.mem_append, List.mem_singleton, hmem]
        constructor
        · rintro (⟨v, rfl, hv, hne⟩ | rfl)
          · have : v ≠ d := fun e => by rw [e, hd] at hv; have := Option.some.inj hv; omega
            exact ⟨v, rfl, by rw [hget, if_neg this]; exact hv, hne⟩
          · exact ⟨d, rfl, by rw [hget, if_pos rfl], fun e => had e.symm⟩
        · rintro ⟨v, rfl, hv, hne⟩
          rw [hget] at hv
          split at hv
          · rename_i e; exact .inr (by rw [e])
          · exact .inl ⟨v, rfl, hv, hne⟩
    · refine ⟨es1, c1, S1, by rw [mset_other M _ e]; exact h1, h2, h3, fun n => ?_⟩
      have hta : t ≠ a := fun x => e (by rw [x, hb] at ht; cases ht; rfl)
      rw [h4]
      constructor
      · rintro ⟨v, rfl, hv, hne⟩
        have : v ≠ d := fun e2 => by rw [e2, hd] at hv; have := Option.some.inj hv; omega
        exact ⟨v, rfl, by rw [hget, if_neg this]; exact hv, hne⟩
      · rintro ⟨v, rfl, hv, hne⟩
        rw [hget] at hv
        split at hv
        · have : (a : Int) = t := Option.some.inj hv
          omega
        · exact ⟨v, rfl, hv, hne⟩
def Post32 (hp : Hp) (g gf gt : Nat) (l : List Int) (d a : Nat) (e : Ex) (st' : AS) (M' : MM) : Prop := (∀ i, e ≠ .exit i) ∧ ∃ to', CS st'.hp g gf gt (l.set d a) to' ∧ CpOk M' (l.set d a) to' ∧ SameBut st'.hp hp
set_option maxHeartbeats 2000000 in
theorem t32 {c : Code} (hcode : Try.f32.body = some c) (K : Nat → Prop) (B : Base) (fr : Nat → AV) (hp : Hp) (M : MM) (g gf gt : Nat) (l : List Int) (to : List (Option Nat)) (d a : Nat) (hf0 : fr 0 = .ptr nC g 0) (hf1 : fr 1 = iv d) (hf2 : fr 2 = iv a) (hc : CS hp g gf gt l to) (hk : CpOk M l to) (hd : l[d]? = some (d : Int)) (had : a ≠ d) (hal : a < l.length) :
    T Try.prog 1 Try.f32.ntmps K B c ⟨fr, hp⟩ M (Post32 hp g gf gt l d a) := by
  cases hcode
  obtain ⟨h1, h2, h3⟩ := hc
  have hdl : d < l.length := (List.getElem?_eq_some_iff.1 hd).1
  have hg1 : (rowsF l)[d]? = some [iv d] := by rw [rowsF_get, hd]; rfl
  have hat : a < to.length := by rw [hk.len]; exact hal
  obtain ⟨ma, hma⟩ : ∃ m, to[a]? = some m := ⟨_, List.getElem?_eq_getElem hat⟩
  have hg2 : (rowsT to)[a]? = some [.sc (.map ma)] := by rw [rowsT_get, hma]; rfl
  refine T_seq ?_
  refine T_ord mixed0 E0_law call0_ok (by kernel_rfl) ?_
  repeat' (first
    | ((with_reducible apply Wo_u); (conv => lhs; simp -implicitDefEqProofs [*]) <;> exact rfl)
    | ((with_reducible apply Wo_n); (conv => lhs; simp -implicitDefEqProofs [*]) <;> exact rfl)
    | (with_reducible apply Wo_nil)
    | ((with_reducible apply Wo_gt); (exact rfl); ((conv => lhs; simp -implicitDefEqProofs [*]) <;> exact rfl); (conv => lhs; simp -implicitDefEqProofs [*]) <;> exact rfl)
    | ((with_reducible apply Wo_gf); (exact rfl); ((conv => lhs; simp -implicitDefEqProofs [*]) <;> exact rfl); (exact rfl))
    | ((with_reducible apply Wo_gx); (exact rfl); ((conv => lhs; simp -implicitDefEqProofs [*]) <;> exact rfl))
    | ((with_reducible apply Wo_gsT); (exact rfl); ((conv => lhs; simp -implicitDefEqProofs [*]) <;> exact rfl))
    | ((with_reducible apply Wo_gsF); (exact rfl); ((conv => lhs; simp -implicitDefEqProofs [*]) <;> exact rfl))
    | ((with_reducible apply ex2); (conv => lhs; simp -implicitDefEqProofs [*]) <;> exact rfl)
    | (with_reducible apply W_ss) | (with_reducible apply W_srl) | (with_reducible apply W_rl)
    | ((with_reducible apply W_srdl); kernel_rfl) | ((with_reducible apply W_rdl); kernel_rfl)
    | ((with_reducible apply Wd_u); (conv => lhs; simp -implicitDefEqProofs [*]) <;> exact rfl)
    | ((with_reducible apply Wd_n); (conv => lhs; simp -implicitDefEqProofs [*]) <;> exact rfl)
    | ((with_reducible apply Wd_nil); exact rfl)
    | ((with_reducible apply Wd_gsT); (exact rfl); ((conv => lhs; simp -implicitDefEqProofs [*]) <;> exact rfl))
    | ((with_reducible apply Wd_gsF); (exact rfl); ((conv => lhs; simp -implicitDefEqProofs [*]) <;> exact rfl))
    | ((with_reducible apply ex4); (conv => lhs; simp -implicitDefEqProofs [*]) <;> exact rfl)
    | (with_reducible apply W_sblock) | (with_reducible apply W_block) | (with_reducible apply W_sskip) | (with_reducible apply W_skip) | (with_reducible apply W_sret) | (with_reducible apply W_ret) | (with_reducible apply W_sexit) | (with_reducible apply W_exit)
    | (with_reducible apply thenW_n) | (with_reducible apply thenW_r) | (with_reducible apply thenW_e) | (with_reducible apply inB_n) | (with_reducible apply inB_r) | (with_reducible apply inB_e) | ((with_reducible apply inB_o); rotate_left; exact rfl)
    | ((with_reducible apply EndQ_ret); (conv => lhs; simp -implicitDefEqProofs [*]) <;> exact rfl) | ((with_reducible apply EndQ_normal); (conv => lhs; simp -implicitDefEqProofs [*]) <;> exact rfl)
    | (with_reducible apply thenT_n) | (with_reducible apply thenT_r) | (with_reducible apply thenT_e))
  refine T_seq (T_seq ?_)
  refine T_ord mixed0 E0_law call0_ok (by kernel_rfl) ?_
  repeat' (first
    | ((with_reducible apply Wo_u); (conv => lhs; simp -implicitDefEqProofs [*]) <;> exact rfl)
    | ((with_reducible apply Wo_n); (conv => lhs; simp -implicitDefEqProofs [*]) <;> exact rfl)
    | (with_reducible apply Wo_nil)
    | ((with_reducible apply Wo_gt); (exact rfl); ((conv => lhs; simp -implicitDefEqProofs [*]) <;> exact rfl); (conv => lhs; simp -implicitDefEqProofs [*]) <;> exact rfl)
    | ((with_reducible apply Wo_gf); (exact rfl); ((conv => lhs; simp -implicitDefEqProofs [*]) <;> exact rfl); (exact rfl))
    | ((with_reducible apply Wo_gx); (exact rfl); ((conv => lhs; simp -implicitDefEqProofs [*]) <;> exact rfl))
    | ((with_reducible apply Wo_gsT); (exact rfl); ((conv => lhs; simp -implicitDefEqProofs [*]) <;> exact rfl))
    | ((with_reducible apply Wo_gsF); (exact rfl); ((conv => lhs; simp -implicitDefEqProofs [*]) <;> exact rfl))
    | ((with_reducible apply ex2); (conv => lhs; simp -implicitDefEqProofs [*]) <;> exact rfl)
    | (with_reducible apply W_ss) | (with_reducible apply W_srl) | (with_reducible apply W_rl)
    | ((with_reducible apply W_srdl); kernel_rfl) | ((with_reducible apply W_rdl); kernel_rfl)
    | ((with_reducible apply Wd_u); (conv => lhs; simp -implicitDefEqProofs [*]) <;> exact rfl)
    | ((with_reducible apply Wd_n); (conv => lhs; simp -implicitDefEqProofs [*]) <;> exact rfl)
    | ((with_reducible apply Wd_nil); exact rfl)
    | ((with_reducible apply Wd_gsT); (exact rfl); ((conv => lhs; simp -implicitDefEqProofs [*]) <;> exact rfl))
    | ((with_reducible apply Wd_gsF); (exact rfl); ((conv => lhs; simp -implicitDefEqProofs [*]) <;> exact rfl))
    | ((with_reducible apply ex4); (conv => lhs; simp -implicitDefEqProofs [*]) <;> exact rfl)
    | (with_reducible apply W_sblock) | (with_reducible apply W_block) | (with_reducible apply W_sskip) | (with_reducible apply W_skip) | (with_reducible apply W_sret) | (with_reducible apply W_ret) | (with_reducible apply W_sexit) | (with_reducible apply W_exit)
    | (with_reducible apply thenW_n) | (with_reducible apply thenW_r) | (with_reducible apply thenW_e) | (with_reducible apply inB_n) | (with_reducible apply inB_r) | (with_reducible apply inB_e) | ((with_reducible apply inB_o); rotate_left; exact rfl)
    | ((with_reducible apply EndQ_ret); (conv => lhs; simp -implicitDefEqProofs [*]) <;> exact rfl) | ((with_reducible apply EndQ_normal); (conv => lhs; simp -implicitDefEqProofs [*]) <;> exact rfl)
    | (with_reducible apply thenT_n) | (with_reducible apply thenT_r) | (with_reducible apply thenT_e))
  cases ma with
  | none =>
    refine T_ct (by simp) ?_
    refine T_region ?_
    repeat' (first
      | ((with_reducible apply To_u E0_law call0_ok); ((conv => lhs; simp -implicitDefEqProofs [*]) <;> exact rfl); (decide))
      | ((with_reducible apply To_n E0_law call0_ok); ((conv => lhs; simp -implicitDefEqProofs [*]) <;> exact rfl))
      | (with_reducible apply To_nil) | (with_reducible apply thenT_n) | (with_reducible apply thenT_r) | (with_reducible apply thenT_e))
    refine To_makeMap (by decide) fun b hb => ?_
    have hfr := hk.fresh hma hb
    repeat' (first
      | ((with_reducible apply To_u E0_law call0_ok); ((conv => lhs; simp -implicitDefEqProofs [*]) <;> exact rfl); (decide))
      | ((with_reducible apply To_n E0_law call0_ok); ((conv => lhs; simp -implicitDefEqProofs [*]) <;> exact rfl))
      | (with_reducible apply To_nil) | (with_reducible apply thenT_n) | (with_reducible apply thenT_r) | (with_reducible apply thenT_e))
    have hadd := hfr.add hd had hal (b := b) (by simp [hat]) (mset_same _ _ _) List.nodup_nil (fun n => by
      constructor
      · intro h; cases h
      · rintro ⟨v, rfl, hv, hne⟩; exact (hne (hk.nil a hma v hv)).elim) (MapOk.empty.push d (.bool true))
    have hg3 : ((rowsT to).set a [.sc (.map (some b))])[a]? = some [.sc (.map (some b))] := by simp [rowsT, hat]
    refine T_region ?_
    repeat' (first
      | ((with_reducible apply To_u E0_law call0_ok); ((conv => lhs; simp -implicitDefEqProofs [*]) <;> exact rfl); (decide))
      | ((with_reducible apply To_n E0_law call0_ok); ((conv => lhs; simp -implicitDefEqProofs [*]) <;> exact rfl))
      | (with_reducible apply To_nil) | (with_reducible apply thenT_n) | (with_reducible apply thenT_r) | (with_reducible apply thenT_e))
    refine To_mapNew (key := (d : Int)) (v := .bool true) Try.underlying78 Try.underlying3 (by simp) (by simp) (by simp) (mset_same _ _ _) .empty (by simp) ?_
    refine To_nil ⟨fun i => nofun, to.set a (some b), ⟨by simp [*], by simp [rowsF_set, *], by simp [rowsT_set]⟩, hadd, fun y hy1 hy2 => by simp [hy1, hy2]⟩
  | some b =>
    obtain ⟨es, clock, S, hMb, hok, hnd, hmem⟩ := hk.map a b hma
    have hadd := hk.add hd had hal hma hMb hnd hmem (hok.push d (.bool true))
    refine T_cf (by simp) (T_skip ?_)
    repeat (first | (with_reducible apply thenT_e) | (with_reducible apply thenT_r) | (with_reducible apply inT_e) | (with_reducible apply inT_n) | (with_reducible apply thenT_n))
    refine T_region ?_
    repeat' (first
      | ((with_reducible apply To_u E0_law call0_ok); ((conv => lhs; simp -implicitDefEqProofs [*]) <;> exact rfl); (decide))
      | ((with_reducible apply To_n E0_law call0_ok); ((conv => lhs; simp -implicitDefEqProofs [*]) <;> exact rfl))
      | (with_reducible apply To_nil) | (with_reducible apply thenT_n) | (with_reducible apply thenT_r) | (with_reducible apply thenT_e))
    refine To_mapNew (key := (d : Int)) (v := .bool true) Try.underlying78 Try.underlying3 (by simp) (by simp) (by simp) hMb hok (fun hin => by
      obtain ⟨v, hv, hl, _⟩ := (hmem d).1 hin
      have : v = d := by omega
      subst this
      rw [hd] at hl
      have := Option.some.inj hl
      omega) ?_
    refine To_nil ⟨fun i => nofun, to, ⟨by simp [*], by simp [rowsF_set, *], by simp [*]⟩, hadd, fun y hy1 hy2 => by simp [hy1]⟩
end Go.Proofs.Ytmfhdhiaokejdaa
