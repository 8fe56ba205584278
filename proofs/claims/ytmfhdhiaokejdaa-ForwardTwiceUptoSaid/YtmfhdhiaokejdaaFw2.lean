/- forward.copies.set, walked. Printed by a program (wip/tfw.py). -/
import Derived.Test.YtmfhdhiaokejdaaFw1
namespace Go.Proofs.Ytmfhdhiaokejdaa
open Go Go.Ab
set_option linter.unusedSimpArgs false
set_option linter.unusedVariables false
def SameBut (hp hp0 : Hp) : Prop := ∀ y, y ≠ nF → y ≠ nT → hp y = hp0 y
def Post31 (hp : Hp) (g gf gt : Nat) (l : List Int) (d : Nat) (e : Ex) (st' : AS) (M' : MM) : Prop := (∀ i, e ≠ .exit i) ∧ ∃ to', CS st'.hp g gf gt (fwdForget l d) to' ∧ CpOk M' (fwdForget l d) to' ∧ SameBut st'.hp hp
/-- How far the copies of d are their own again. -/
structure Own (es : Array MapEntry) (S : List Int) (seen : Array Nat) (l cur : List Int) : Prop where
  len : cur.length = l.length
  all : ∀ v : Nat, cur[v]? = l[v]? ∨ ((v : Int) ∈ S ∧ cur[v]? = some (v : Int))
  did : ∀ x ∈ es.toList, seen.contains x.born = true → ∀ v : Nat, x.key = ik v → cur[v]? = some (v : Int)
theorem Own.start (es : Array MapEntry) (S : List Int) (l : List Int) : Own es S #[] l l := ⟨rfl, fun v => .inl rfl, fun x _ h => by simp at h⟩
theorem Own.step {es : Array MapEntry} {S : List Int} {seen : Array Nat} {l cur : List Int} (h : Own es S seen l cur) {clock : Nat} (hok : MapOk es clock S) {e : MapEntry} (he : e ∈ es.toList) {v : Nat} (hv : e.key = ik v) (hlt : v < l.length) : Own es S (seen.push e.born) l (cur.set v v) := by
  have hin : (v : Int) ∈ S := hok.mem.2 ⟨e, he, hv⟩
  have hget : ∀ u : Nat, (cur.set v v)[u]? = if u = v then some (v : Int) else cur[u]? := by
    intro u
    rw [List.getElem?_set]
    by_cases e : v = u
    · subst e; simp [h.len, hlt]
    · have e' : u ≠ v := fun x => e x.symm
      simp [e, e']
  refine ⟨by rw [List.length_set, h.len], fun u => ?_, fun x hx hs u hu => ?_⟩
  · rw [hget]
    split
    · rename_i e; subst e; exact .inr ⟨hin, rfl⟩
    · exact h.all u
  · rw [hget]
    split
    · rename_i e; subst e; rfl
    · rename_i hne
      simp only [Array.contains_push, Bool.or_eq_true, beq_iff_eq] at hs
      rcases hs with hs | hs
      · exact h.did x hx hs u hu
      · exfalso
        have hxe : x = e := by
          have hn := hok.nodup
          obtain ⟨i, hi⟩ := List.getElem?_of_mem hx
          obtain ⟨j, hj⟩ := List.getElem?_of_mem he
          have h1 : (es.toList.map (·.born))[i]? = some x.born := by rw [List.getElem?_map, hi]; rfl
          have h2 : (es.toList.map (·.born))[j]? = some x.born := by rw [List.getElem?_map, hj]; simp [hs]
          have hil := (List.getElem?_eq_some_iff.1 h1).1
          have : i = j := (List.getElem?_inj hil hn).1 (h1.trans h2.symm)
          subst this
          rw [hi] at hj
          exact Option.some.inj hj
        rw [hxe, hv] at hu
        have : (v : Int) = u := by cases hu; rfl
        omega
theorem Own.done {es : Array MapEntry} {S : List Int} {seen : Array Nat} {l cur : List Int} (h : Own es S seen l cur) {clock : Nat} (hok : MapOk es clock S) (h0 : (leftOf es seen).size = 0) {d : Nat} (hd : l[d]? = some (d : Int))
    (hmem : ∀ n : Int, n ∈ S ↔ ∃ v : Nat, n = v ∧ l[v]? = some (d : Int) ∧ v ≠ d) : cur = fwdForget l d := by
  have hall : ∀ x ∈ es.toList, seen.contains x.born = true := by
    intro x hx
    have he : leftOf es seen = #[] := Array.eq_empty_of_size_eq_zero h0
    unfold leftOf at he
    rw [Array.filter_eq_empty_iff] at he
    have := he x (by simpa using hx)
    simpa using this
  apply List.ext_getElem?
  intro v
  rw [forget_get]
  by_cases hvd : v = d
  · subst hvd
    have hdl := (List.getElem?_eq_some_iff.1 hd).1
    rw [if_pos ⟨rfl, hdl⟩]
    rcases h.all v with h1 | ⟨_, h1⟩
    · rw [h1, hd]
    · exact h1
  · rw [if_neg (fun e => hvd e.1)]
    by_cases hin : (v : Int) ∈ S
    · obtain ⟨x, hx, hk⟩ := hok.mem.1 hin
      rw [h.did x hx (hall x hx) v hk]
      obtain ⟨u, hu, hl, _⟩ := (hmem v).1 hin
      have : u = v := by omega
      subst this
      rw [hl]; simp
    · rcases h.all v with h1 | ⟨h2, _⟩
      · rw [h1]
        cases hl : l[v]? with
        | none => rfl
        | some y =>
          simp only [Option.map_some, Option.some.injEq]
          rw [if_neg]
          intro hy
          subst hy
          exact hin ((hmem v).2 ⟨v, rfl, hl, hvd⟩)
      · exact (hin h2).elim
theorem left_less {es : Array MapEntry} {seen : Array Nat} {e : MapEntry} (he : e ∈ (leftOf es seen).toList) : (leftOf es (seen.push e.born)).size < (leftOf es seen).size := by
  have h1 : leftOf es (seen.push e.born) = (leftOf es seen).filter fun x => !(x.born == e.born) := by
    unfold leftOf
    rw [Array.filter_filter]
    congr 1
    funext x
    simp only [Array.contains_push, Bool.not_or, Bool.and_comm]
  rw [h1]
  exact Array.size_filter_lt_size_iff_exists.2 ⟨e, by simpa using he, by simp⟩
set_option maxHeartbeats 2000000 in
theorem t31b {c0 c : Code} (hcode : Try.f31.body = some (.seq c0 c)) (K : Nat → Prop) (B : Base) (fr : Nat → AV) (hp0 hp : Hp) (M : MM) (g gf gt : Nat) (l : List Int) (to : List (Option Nat)) (d : Nat) (hf0 : fr 0 = .ptr nC g 0) (hf1 : fr 1 = iv d) (hc : CS hp g gf gt l to) (hk : CpOk M l to) (hd : l[d]? = some (d : Int)) (hsame : SameBut hp hp0) :
    T Try.prog 1 Try.f31.ntmps K B c ⟨fr, hp⟩ M (Post31 hp0 g gf gt l d) := by
  obtain ⟨h1, h2, h3⟩ := hc
  have hdl : d < l.length := (List.getElem?_eq_some_iff.1 hd).1
  have hdt : d < to.length := by rw [hk.len]; exact hdl
  obtain ⟨md, hmd⟩ : ∃ s, to[d]? = some s := ⟨_, List.getElem?_eq_getElem hdt⟩
  have hg2 : (rowsT to)[d]? = some [.sc (.map md)] := by rw [rowsT_get, hmd]; rfl
  cases hcode
  refine T_seq (T_seq (T_region ?_))
  repeat' (first
    | ((with_reducible apply To_u E0_law call0_ok); ((conv => lhs; simp -implicitDefEqProofs [*]) <;> exact rfl); (decide))
    | ((with_reducible apply To_n E0_law call0_ok); ((conv => lhs; simp -implicitDefEqProofs [*]) <;> exact rfl))
    | (with_reducible apply To_nil) | (with_reducible apply thenT_n) | (with_reducible apply thenT_r) | (with_reducible apply thenT_e))
  cases md with
  | none =>
    have hl : fwdForget l d = l := by
      apply List.ext_getElem?
      intro v
      rw [forget_get]
      split
      · rename_i e; rw [e.1, hd]
      · cases hv : l[v]? with
        | none => rfl
        | some y =>
          simp only [Option.map_some, Option.some.injEq]
          split
          · rename_i hy; subst hy; have := hk.nil d hmd v hv; subst this; rfl
          · rfl
    refine To_rangeNil (by decide) Try.underlying78 (by simp) fun b hb => ?_
    refine To_nil (thenT_n (T_block ?_))
    refine T_loop (n := 0) (fun n s M' => s.fr 38 = .sc (.pointer (some ⟨b, 0, none⟩)) ∧ s.fr 0 = .ptr nC g 0 ∧ s.fr 1 = iv d ∧ s.hp = hp ∧ M' = mset M b (.mapIter none 0 #[] 0)) ⟨by simp, by simp [hf0], by simp [hf1], rfl, rfl⟩ ?_
    rintro n ⟨fr2, hp2⟩ M2 ⟨e38, e0, e1, e5, rfl⟩
    simp only at e38 e0 e1 e5
    subst e5
    refine T_seq (T_region ?_)
    refine To_nextNil (by decide) e38 (mset_same _ _ _) ?_
    repeat' (first
      | ((with_reducible apply To_u E0_law call0_ok); ((conv => lhs; simp -implicitDefEqProofs [*]) <;> exact rfl); (decide))
      | ((with_reducible apply To_n E0_law call0_ok); ((conv => lhs; simp -implicitDefEqProofs [*]) <;> exact rfl))
      | (with_reducible apply To_nil) | (with_reducible apply thenT_n) | (with_reducible apply thenT_r) | (with_reducible apply thenT_e))
    refine T_seq (T_cf (by simp) (T_exit ?_))
    repeat (first | (with_reducible apply thenT_e) | (with_reducible apply thenT_r) | (with_reducible apply inT_e) | (with_reducible apply inT_n) | (with_reducible apply thenT_n))
    refine T_region ?_
    repeat' (first
      | ((with_reducible apply To_u E0_law call0_ok); ((conv => lhs; simp -implicitDefEqProofs [*]) <;> exact rfl); (decide))
      | ((with_reducible apply To_n E0_law call0_ok); ((conv => lhs; simp -implicitDefEqProofs [*]) <;> exact rfl))
      | (with_reducible apply To_nil) | (with_reducible apply thenT_n) | (with_reducible apply thenT_r) | (with_reducible apply thenT_e))
    refine ⟨fun i => nofun, to.set d none, ⟨by simp [*, forget_len], by simp [*], by simp [rowsT_set]⟩, ?_, fun y hy1 hy2 => by simp [hy2, hsame y hy1 hy2]⟩
    exact hk.forget hd (fun b' o hbo => by rw [mset_other M _ (fun e => by rw [e, hb] at hbo; cases hbo)]; exact hbo)
  | some bm =>
    obtain ⟨es, clock, S, hMb, hok, hnd, hmem⟩ := hk.map d bm hmd
    refine To_range (by decide) Try.underlying78 (by simp) hMb fun b hb => ?_
    have hbb : bm ≠ b := fun e => by rw [e, hb] at hMb; cases hMb
    refine To_nil (thenT_n (T_block ?_))
    refine T_loop (n := (leftOf es #[]).size) (fun n s M' => ∃ seen c0 cur, n = (leftOf es seen).size ∧ s.fr 38 = .sc (.pointer (some ⟨b, 0, none⟩)) ∧ s.fr 0 = .ptr nC g 0 ∧ s.fr 1 = iv d ∧ M' b = some (.mapIter (some bm) clock seen c0) ∧ clock ≤ c0 ∧
      (∀ b' o, M b' = some o → M' b' = some o) ∧ Own es S seen l cur ∧ s.hp nC = .box g [.own nF gf l.length, .own nT gt to.length] false ∧ s.hp nF = .arr gf 1 3 (rowsF cur) false ∧ s.hp nT = .arr gt 1 78 (rowsT to) false ∧ SameBut s.hp hp0)
      ⟨#[], clock, l, rfl, by simp, by simp [hf0], by simp [hf1], mset_same _ _ _, Nat.le_refl _, fun b' o hbo => by rw [mset_other M _ (fun e => by rw [e, hb] at hbo; cases hbo)]; exact hbo, .start es S l, h1, h2, h3, hsame⟩ ?_
    rintro n ⟨fr2, hp2⟩ M2 ⟨seen, c0, cur, rfl, e38, e0, e1, hM2, hcc, hMM, hown, k1, k2, k3, hsame2⟩
    simp only at e38 e0 e1 k1 k2 k3 hsame2
    clear h1 h2 h3 hsame hf0 hf1
    refine T_seq (T_region ?_)
    refine To_next (by decide) e38 hM2 (hMM _ _ hMb) hok.born hcc (fun h0 => ?_) (fun e he => ?_)
    · have hfin := hown.done hok h0 hd hmem
      subst hfin
      repeat' (first
        | ((with_reducible apply To_u E0_law call0_ok); ((conv => lhs; simp -implicitDefEqProofs [*]) <;> exact rfl); (decide))
        | ((with_reducible apply To_n E0_law call0_ok); ((conv => lhs; simp -implicitDefEqProofs [*]) <;> exact rfl))
        | (with_reducible apply To_nil) | (with_reducible apply thenT_n) | (with_reducible apply thenT_r) | (with_reducible apply thenT_e))
      refine T_seq (T_cf (by simp) (T_exit ?_))
      repeat (first | (with_reducible apply thenT_e) | (with_reducible apply thenT_r) | (with_reducible apply inT_e) | (with_reducible apply inT_n) | (with_reducible apply thenT_n))
      refine T_region ?_
      repeat' (first
        | ((with_reducible apply To_u E0_law call0_ok); ((conv => lhs; simp -implicitDefEqProofs [*]) <;> exact rfl); (decide))
        | ((with_reducible apply To_n E0_law call0_ok); ((conv => lhs; simp -implicitDefEqProofs [*]) <;> exact rfl))
        | (with_reducible apply To_nil) | (with_reducible apply thenT_n) | (with_reducible apply thenT_r) | (with_reducible apply thenT_e))
      refine ⟨fun i => nofun, to.set d none, ⟨by simp [*, forget_len], by simp [*], by simp [rowsT_set]⟩, ?_, fun y hy1 hy2 => by simp [hy2, hsame2 y hy1 hy2]⟩
      exact hk.forget hd hMM
    · have hes : e ∈ es.toList := by unfold leftOf at he; simp at he ⊢; exact he.1
      obtain ⟨z, hz, hze⟩ : ∃ z, z ∈ S ∧ e.key = ik z := by
        have : e.key ∈ es.toList.map (·.key) := List.mem_map.2 ⟨e, hes, rfl⟩
        rw [hok.keys] at this
        obtain ⟨z, hz, e2⟩ := List.mem_map.1 this
        exact ⟨z, hz, e2.symm⟩
      obtain ⟨v, rfl, hlv, hvd⟩ := (hmem z).1 hz
      have hvl : v < l.length := (List.getElem?_eq_some_iff.1 hlv).1
      have hown2 := hown.step hok hes hze hvl
      have hless := left_less he
      have hcl := hown.len
      repeat' (first
        | ((with_reducible apply To_u E0_law call0_ok); ((conv => lhs; simp -implicitDefEqProofs [*]) <;> exact rfl); (decide))
        | ((with_reducible apply To_n E0_law call0_ok); ((conv => lhs; simp -implicitDefEqProofs [*]) <;> exact rfl))
        | (with_reducible apply To_nil) | (with_reducible apply thenT_n) | (with_reducible apply thenT_r) | (with_reducible apply thenT_e))
      refine T_seq (T_ct (by simp) (T_skip ?_))
      repeat (first | (with_reducible apply thenT_e) | (with_reducible apply thenT_r) | (with_reducible apply inT_e) | (with_reducible apply inT_n) | (with_reducible apply thenT_n))
      refine T_block (T_seq (T_region ?_))
      refine To_entry (by decide) (by simp [e38]) (mset_same _ _ _) (by rw [mset_other _ _ hbb]; exact hMM _ _ hMb) hes hok.nodup ?_
      have hgc : (rowsF cur)[v]? = (cur[v]?).map fun v => [iv v] := rowsF_get cur v
      obtain ⟨cv, hcv⟩ : ∃ cv, cur[v]? = some cv := ⟨_, List.getElem?_eq_getElem (by omega)⟩
      rw [hcv] at hgc
      simp only [Option.map_some] at hgc
      clear hcv
      have hvc : v < cur.length := by omega
      clear hown
      repeat' (first
        | ((with_reducible apply To_u E0_law call0_ok); ((conv => lhs; simp -implicitDefEqProofs [*]) <;> exact rfl); (decide))
        | ((with_reducible apply To_n E0_law call0_ok); ((conv => lhs; simp -implicitDefEqProofs [*]) <;> exact rfl))
        | (with_reducible apply To_nil) | (with_reducible apply thenT_n) | (with_reducible apply thenT_r) | (with_reducible apply thenT_e))
      refine T_region ?_
      repeat' (first
        | ((with_reducible apply To_u E0_law call0_ok); ((conv => lhs; simp -implicitDefEqProofs [*]) <;> exact rfl); (decide))
        | ((with_reducible apply To_n E0_law call0_ok); ((conv => lhs; simp -implicitDefEqProofs [*]) <;> exact rfl))
        | (with_reducible apply To_nil) | (with_reducible apply thenT_n) | (with_reducible apply thenT_r) | (with_reducible apply thenT_e))
      refine inT_n (thenT_n ⟨_, hless, seen.push e.born, clock, cur.set v v, rfl, by simp [e38], by simp [e0], by simp [e1], mset_same _ _ _, Nat.le_refl _, fun b' o hbo => ?_, hown2, by simp [*], by simp [rowsF_set], by simp [*], fun y hy1 hy2 => by simp [hy1, hsame2 y hy1 hy2]⟩)
      rw [mset_other _ _ (fun e => by rw [e, hb] at hbo; cases hbo)]
      exact hMM _ _ hbo
end Go.Proofs.Ytmfhdhiaokejdaa
