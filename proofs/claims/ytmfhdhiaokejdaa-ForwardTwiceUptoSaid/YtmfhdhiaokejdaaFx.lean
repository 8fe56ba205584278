/- forward.forwarded: what it computes. No walk here. -/
import Derived.Test.YtmfhdhiaokejdaaFw4
namespace Go.Proofs.Ytmfhdhiaokejdaa
open Go Go.Ab
set_option linter.unusedSimpArgs false
set_option linter.unusedVariables false
def atL (l : List Int) (x : Int) : Int := l.getD x.toNat 0
def fwdTac (l : List Int) (t : Tac) : Tac := if t.op = 2 ∨ t.op = 5 ∨ t.op = 6 ∨ t.op = 9 then { t with a := atL l t.a } else if t.op = 3 ∨ t.op = 7 then { t with a := atL l t.a, b := atL l t.b } else t
def fwdStep (l : List Int) (t : Tac) : List Int := if 0 ≤ t.sets then (if t.op = 2 ∧ atL l t.a ≠ t.sets then (fwdForget l t.sets.toNat).set t.sets.toNat (atL l t.a) else fwdForget l t.sets.toNat) else l
def stN (l0 : List Int) (ins : List Tac) (k : Nat) : List Int := (ins.take k).foldl fwdStep l0
def idL (n : Nat) : List Int := (List.range n).map fun v : Nat => (v : Int)
def outs (l0 : List Int) (ins : List Tac) : List Tac := ins.mapIdx fun j t => fwdTac (stN l0 ins j) t
def fwdBlk (regs : Int) (b : Blk) : Blk := { ins := outs (idL regs.toNat) b.ins, en := b.en, v := if b.en = 2 then atL (stN (idL regs.toNat) b.ins b.ins.length) b.v else b.v, to := b.to, el := b.el }
/-- May an instruction be, with so many registers? -/
def Tac.okR (t : Tac) (n : Nat) : Prop := (∀ x ∈ t.uses, 0 ≤ x ∧ x < n) ∧ (0 ≤ t.sets → t.sets < n)
structure Blk.okR (b : Blk) (n : Nat) : Prop where
  ins : ∀ t ∈ b.ins, t.okR n
  v : b.en = 2 → 0 ≤ b.v ∧ b.v < n
def Rng (l : List Int) (n : Nat) : Prop := l.length = n ∧ ∀ (v : Nat) x, l[v]? = some x → 0 ≤ x ∧ x < n
theorem idL_len (n : Nat) : (idL n).length = n := by simp [idL]
theorem idL_get (n v : Nat) : (idL n)[v]? = if v < n then some (v : Int) else none := by
  unfold idL
  rw [List.getElem?_map]
  split
  · rename_i h; rw [List.getElem?_eq_getElem (by simpa using h)]; simp
  · rename_i h; rw [List.getElem?_eq_none (by simp; omega)]; rfl
theorem idL_rng (n : Nat) : Rng (idL n) n := ⟨idL_len n, fun v x h => by
  rw [idL_get] at h
  split at h
  · cases h; omega
  · cases h⟩
theorem atL_get {l : List Int} {n : Nat} (h : Rng l n) {x : Int} (h0 : 0 ≤ x) (h1 : x < n) : l[x.toNat]? = some (atL l x) ∧ 0 ≤ atL l x ∧ atL l x < n := by
  have hl : x.toNat < l.length := by rw [h.1]; omega
  have e : l[x.toNat]? = some (atL l x) := by
    unfold atL
    rw [List.getD_eq_getElem?_getD, List.getElem?_eq_getElem hl]; rfl
  exact ⟨e, h.2 _ _ e⟩
theorem forget_rng {l : List Int} {n : Nat} (h : Rng l n) (d : Nat) : Rng (fwdForget l d) n := by
  refine ⟨by rw [forget_len, h.1], fun v x hx => ?_⟩
  rw [forget_get] at hx
  split at hx
  · rename_i e; cases hx; have := e.2; rw [h.1] at this; omega
  · cases hl : l[v]? with
    | none => rw [hl] at hx; cases hx
    | some y =>
      rw [hl] at hx
      have hlt := (List.getElem?_eq_some_iff.1 hl).1
      have hy := h.2 v y hl
      rw [h.1] at hlt
      simp only [Option.map_some, Option.some.injEq] at hx
      split at hx <;> omega
theorem set_rng {l : List Int} {n : Nat} (h : Rng l n) (d : Nat) {x : Int} (h0 : 0 ≤ x) (h1 : x < n) : Rng (l.set d x) n := by
  refine ⟨by rw [List.length_set, h.1], fun v y hy => ?_⟩
  rw [List.getElem?_set] at hy
  split at hy
  · split at hy
    · cases hy; exact ⟨h0, h1⟩
    · cases hy
  · exact h.2 v y hy
theorem uses_a {t : Tac} {n : Nat} (h : t.okR n) (ho : t.op = 2 ∨ t.op = 5 ∨ t.op = 6 ∨ t.op = 9 ∨ t.op = 3 ∨ t.op = 7) : 0 ≤ t.a ∧ t.a < n := by
  apply h.1
  unfold Tac.uses usesL
  by_cases h1 : t.op = 2 ∨ t.op = 5 ∨ t.op = 6 ∨ t.op = 9
  · rw [if_pos h1]; simp
  · rw [if_neg h1, if_pos (by omega)]; simp
theorem uses_b {t : Tac} {n : Nat} (h : t.okR n) (ho : t.op = 3 ∨ t.op = 7) : 0 ≤ t.b ∧ t.b < n := by
  apply h.1
  unfold Tac.uses usesL
  rw [if_neg (by omega), if_pos ho]; simp
theorem step_rng {l : List Int} {n : Nat} (h : Rng l n) {t : Tac} (ht : t.okR n) : Rng (fwdStep l t) n := by
  unfold fwdStep
  split
  · split
    · rename_i hop
      have ha := uses_a ht (.inl hop.1)
      have := atL_get h ha.1 ha.2
      exact set_rng (forget_rng h _) _ this.2.1 this.2.2
    · exact forget_rng h _
  · exact h
theorem stN_succ {l0 : List Int} {ins : List Tac} {k : Nat} {t : Tac} (h : ins[k]? = some t) : stN l0 ins (k + 1) = fwdStep (stN l0 ins k) t := by
  unfold stN
  rw [List.take_add_one, h]
  simp
theorem stN_zero {l0 : List Int} {ins : List Tac} : stN l0 ins 0 = l0 := by simp [stN]
theorem stN_rng {l0 : List Int} {n : Nat} (h : Rng l0 n) {ins : List Tac} (hi : ∀ t ∈ ins, t.okR n) : ∀ k, k ≤ ins.length → Rng (stN l0 ins k) n
  | 0, _ => by rw [stN_zero]; exact h
  | k + 1, hk => by
    have hg : ins[k]? = some ins[k] := List.getElem?_eq_getElem (by omega)
    rw [stN_succ hg]
    exact step_rng (stN_rng h hi k (by omega)) (hi _ (List.getElem_mem _))
theorem fwdTac_op (l : List Int) (t : Tac) : (fwdTac l t).op = t.op := by unfold fwdTac; split <;> (try split) <;> rfl
theorem fwdTac_d (l : List Int) (t : Tac) : (fwdTac l t).d = t.d := by unfold fwdTac; split <;> (try split) <;> rfl
theorem fwdTac_sets (l : List Int) (t : Tac) : (fwdTac l t).sets = t.sets := by unfold Tac.sets; rw [fwdTac_op, fwdTac_d]
theorem fwdTac_a {l : List Int} {t : Tac} (h : t.op = 2) : (fwdTac l t).a = atL l t.a := by unfold fwdTac; rw [if_pos (.inl h)]
/-- The instructions, as far as they are done. -/
def insAt (l0 : List Int) (ins : List Tac) (k : Nat) : List Tac := ins.mapIdx fun j t => if j < k then fwdTac (stN l0 ins j) t else ⟨0, 0, 0, 0, 0, 0, 0, 0⟩
theorem insAt_len (l0 : List Int) (ins : List Tac) (k : Nat) : (insAt l0 ins k).length = ins.length := by simp [insAt]
theorem insAt_zero (l0 : List Int) (ins : List Tac) : insAt l0 ins 0 = List.replicate ins.length ⟨0, 0, 0, 0, 0, 0, 0, 0⟩ := by
  apply List.ext_getElem?
  intro j
  simp only [insAt, List.getElem?_mapIdx, List.getElem?_replicate]
  by_cases h : j < ins.length
  · rw [List.getElem?_eq_getElem h]; simp [h]
  · rw [List.getElem?_eq_none (by omega)]; simp [h]
theorem insAt_succ {l0 : List Int} {ins : List Tac} {k : Nat} {t : Tac} (h : ins[k]? = some t) : (insAt l0 ins k).set k (fwdTac (stN l0 ins k) t) = insAt l0 ins (k + 1) := by
  have hk := (List.getElem?_eq_some_iff.1 h).1
  apply List.ext_getElem?
  intro j
  rw [List.getElem?_set]
  simp only [insAt, List.getElem?_mapIdx, List.length_mapIdx]
  by_cases e : k = j
  · subst e
    have ht := (List.getElem?_eq_some_iff.1 h).2
    simp [hk, ht]
  · rw [if_neg e]
    cases hj : ins[j]? with
    | none => rfl
    | some u =>
      simp only [Option.map_some, Option.some.injEq]
      by_cases hjk : j < k
      · rw [if_pos hjk, if_pos (by omega)]
      · rw [if_neg hjk, if_neg (by omega)]
theorem insAt_all (l0 : List Int) (ins : List Tac) : insAt l0 ins ins.length = outs l0 ins := by
  apply List.ext_getElem?
  intro j
  simp only [insAt, outs, List.getElem?_mapIdx]
  cases hj : ins[j]? with
  | none => rfl
  | some u => simp only [Option.map_some]; rw [if_pos (List.getElem?_eq_some_iff.1 hj).1]
def initF (n k : Nat) : List Int := (List.range n).map fun v : Nat => if v < k then (v : Int) else 0
theorem initF_zero (n : Nat) : rowsF (initF n 0) = List.replicate n [iv 0] := by
  apply List.ext_getElem?
  intro j
  simp only [rowsF, initF, List.map_map, List.getElem?_map, List.getElem?_replicate]
  by_cases h : j < n
  · rw [List.getElem?_eq_getElem (by simpa using h)]; simp [h]
  · rw [List.getElem?_eq_none (by simp; omega)]; simp [h]
theorem initF_len (n k : Nat) : (initF n k).length = n := by simp [initF]
theorem initF_succ {n k : Nat} (_ : k < n) : (initF n k).set k (k : Int) = initF n (k + 1) := by
  apply List.ext_getElem?
  intro j
  rw [List.getElem?_set]
  simp only [initF, List.getElem?_map, List.length_map, List.length_range]
  by_cases e : k = j
  · subst e
    rename_i h
    rw [List.getElem?_eq_getElem (by simpa using h)]
    simp [h]
  · rw [if_neg e]
    by_cases h : j < n
    · rw [List.getElem?_eq_getElem (by simpa using h)]
      simp only [List.getElem_range, Option.map_some, Option.some.injEq]
      by_cases hjk : j < k
      · rw [if_pos hjk, if_pos (by omega)]
      · rw [if_neg hjk, if_neg (by omega)]
    · rw [List.getElem?_eq_none (by simp; omega)]; rfl
theorem initF_all (n : Nat) : initF n n = idL n := by
  unfold initF idL
  apply List.map_congr_left
  intro v hv
  rw [if_pos (List.mem_range.1 hv)]
theorem rowsT_nil (n : Nat) : rowsT (List.replicate n none) = List.replicate n [.sc (.map none)] := by simp [rowsT]
theorem CpOk.start (M : MM) (n : Nat) : CpOk M (idL n) (List.replicate n none) := by
  refine ⟨by simp [idL_len], fun v x h => ?_, fun s _ v hv => ?_, fun s b hb => ?_, fun s s' b hb _ => ?_⟩
  · rw [idL_len]; exact (idL_rng n).2 v x h
  · rw [idL_get] at hv
    split at hv
    · have := Option.some.inj hv; omega
    · cases hv
  · rw [List.getElem?_replicate] at hb; split at hb <;> cases hb
  · rw [List.getElem?_replicate] at hb; split at hb <;> cases hb

/-- A function of data, by a triple of its body. -/
theorem callT {P : Program} {f : Nat} {fn : Func} {c : Code} {args rs : List AV} (hfn : P.funcs[f]? = some fn) (hb : fn.body = some c) (hbo : bodyOk fn = true) (hlen : args.length = fn.params.size)
    (h : ∀ K B, T P 0 fn.ntmps K B c ⟨frame0 args, hp0⟩ (fun _ => none) (fun e st' _ => (∀ i, e ≠ .exit i) ∧ ∃ hpf, (resultsP P st'.fr fn.resultTypes.toList fn.results.toList).run st'.hp = some (rs, hpf)))
    {I : Nat → Prop} {w : World} {us : List Value} (hI : ∀ b, I b → b < w.heap.size) (ha : AllR (RepA I w) args us) : Calls P f ⟨us⟩ w (fun e w' => ∃ u, e = .returned u ∧ CallPost P I w (rtys P f) rs u w') := by
  have hrt : rtys P f = fn.resultTypes.toList := by simp [rtys, hfn]
  unfold bodyOk at hbo
  rw [hb] at hbo
  simp only [Bool.and_eq_true, decide_eq_true_eq] at hbo
  obtain ⟨⟨⟨hs1, hs2⟩, hs3⟩, hs4⟩ := hbo
  have hus : us.length = fn.params.size := by rw [← ha.1]; exact hlen
  refine calls_of_wp hfn hb ?_
  have S0 : StM 0 fn.ntmps (fun b => b < w.heap.size ∧ ¬ I b) ⟨I, fun _ => none, hp0, w⟩ ⟨frame0 args, hp0⟩ (fun _ => none) { tmps := (⟨us⟩ : Array Value) ++ Array.replicate (fn.ntmps - (⟨us⟩ : Array Value).size) undef, defers := [] } w := by
    refine ⟨I, fun _ => none, ⟨⟨fun x => trivial, fun x y p q hl => (by simp [hp0, AObj.live] at hl), hI, fun b hb => ?_, fun b hb hk => ?_⟩, fun b o h => (by cases h), fun b h => (by cases h)⟩, .refl _ _ _ _ _, fun t => frame_ok (ha.imp fun a u h => repA_rep h) t, ?_, rfl⟩
    · rcases hb with hb | hb
      · exact hb.1
      · cases hb
    · rcases hk with hk | hk
      · exact hk.2 hb
      · cases hk
    · simp only [Array.size_append, List.size_toArray, Array.size_replicate]
      omega
  refine Code.wp_mono (fun ex a' w' hh => ?_) (h (fun b => b < w.heap.size ∧ ¬ I b) ⟨I, fun _ => none, hp0, w⟩ _ w S0)
  obtain ⟨e, st', M', rfl, S', hne, hpf, hr⟩ := hh
  obtain ⟨I1, m1, H1, E1, hf1, _, hd1⟩ := S'
  obtain ⟨I2, bs, us', hrun, G2, E2', d2, nb, i2, l2, m2, n2⟩ := results_ok H1.gam hf1 hr
  have E2 := E2'.weaken (K' := fun b => b < w.heap.size ∧ ¬ I b) fun b => .inl
  have hfin : a'.defers = [] ∧ ∃ v, (results fn a'.tmps).run P w' = .ok v w' ∧ ∃ u, Ending.returned v = .returned u ∧ CallPost P I w (rtys P f) rs u w' := by
    refine ⟨hd1, retV us', run_results fn _ us' hrun, retV us', rfl, ?_⟩
    have E12 := E1.trans E2
    exact {
      old := fun b hb => E12.keep b (by
        by_cases hi : I b
        · exact .inl hi
        · exact .inr ⟨hb, hi⟩)
      size := E12.size
      os := E12.os
      tape := E12.tape
      output := E12.output
      res := ⟨I2, us', bs, rfl, E12.isub, fun b hb => by
          by_cases hi : I b
          · exact .inl hi
          · exact .inr (Nat.le_of_not_lt fun hlt => G2.ik b hb (.inl ⟨hlt, hi⟩)), G2.ilt, fun b hb => by
          refine ⟨Nat.le_of_not_lt fun hlt => ?_, (nb b hb).1⟩
          by_cases hi : I b
          · exact (nb b hb).1 (E12.isub b hi)
          · exact (nb b hb).2 (.inl ⟨hlt, hi⟩), n2, by rw [hrt]; exact d2⟩ }
  cases e with
  | normal => exact hfin
  | exit i => exact (hne i rfl).elim
  | ret => exact hfin
end Go.Proofs.Ytmfhdhiaokejdaa
