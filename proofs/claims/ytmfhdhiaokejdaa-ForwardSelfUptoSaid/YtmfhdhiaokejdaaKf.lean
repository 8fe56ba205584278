/- Law 31: the reference, and ForwardOf, walked. -/
import Derived.Test.YtmfhdhiaokejdaaK6
import Derived.Test.YtmfhdhiaokejdaaK4
import Derived.Test.YtmfhdhiaokejdaaK5
import Derived.Lib.Hide
import Derived.Test.YtmfhdhiaokejdaaK7
import Derived.Test.YtmfhdhiaokejdaaKA
namespace Go.Proofs.Ytmfhdhiaokejdaa
open Go Go.Ab
set_option linter.unusedSimpArgs false
set_option linter.unusedVariables false
/-- The part below i is done. -/
def fgtAt (L : List Int) (d i : Nat) : List Int := L.mapIdx fun v x => if v < i ∧ x = (d : Int) then (v : Int) else x
theorem fgtAt_len (L : List Int) (d i : Nat) : (fgtAt L d i).length = L.length := by simp [fgtAt]
theorem fgtAt_zero (L : List Int) (d : Nat) : fgtAt L d 0 = L := by
  apply List.ext_getElem?
  intro j
  simp only [fgtAt, List.getElem?_mapIdx]
  cases L[j]? <;> simp
theorem fgtAt_get {L : List Int} {d i : Nat} (h : i < L.length) : ∀ h', (fgtAt L d i)[i]'h' = L[i] := fun h' => by simp [fgtAt]
theorem fgtAt_succ {L : List Int} {d i : Nat} (h : i < L.length) : fgtAt L d (i + 1) = if L[i] = (d : Int) then (fgtAt L d i).set i (i : Int) else fgtAt L d i := by
  apply List.ext_getElem?
  intro j
  have hj : ∀ m, (fgtAt L d m)[j]? = (L[j]?).map fun x => if j < m ∧ x = (d : Int) then (j : Int) else x := fun m => by simp only [fgtAt, List.getElem?_mapIdx]
  by_cases e : j = i
  · subst e
    have hg := List.getElem?_eq_getElem h
    rw [hj, hg]
    split
    · rename_i hd
      rw [List.getElem?_set]
      simp [hd, fgtAt_len, h]
    · rename_i hd
      rw [hj, hg]
      simp [hd]
  · have hs : (if L[i] = (d : Int) then (fgtAt L d i).set i (i : Int) else fgtAt L d i)[j]? = (fgtAt L d i)[j]? := by
      split
      · rw [List.getElem?_set, if_neg (fun h => e h.symm)]
      · rfl
    rw [hs, hj, hj]
    cases L[j]? with
    | none => rfl
    | some x => simp only [Option.map_some, Option.some.injEq, show (j < i + 1) ↔ (j < i) by omega]
theorem fgtAt_all {L : List Int} {d : Nat} : (fgtAt L d L.length).set d (d : Int) = fwdForget L d := by
  have : fgtAt L d L.length = L.mapIdx fun v x => if x = (d : Int) then (v : Int) else x := by
    apply List.ext_getElem?
    intro j
    simp only [fgtAt, List.getElem?_mapIdx]
    cases hg : L[j]? with
    | none => rfl
    | some x => simp [(List.getElem?_eq_some_iff.1 hg).1]
  rw [this]; rfl
abbrev rowI (L : List Int) : List (List AV) := L.map fun x => [iv x]
theorem rowI_set (L : List Int) (i : Nat) (x : Int) : (rowI L).set i [iv x] = rowI (L.set i x) := by simp [List.map_set]
set_option maxHeartbeats 4000000 in
theorem h35 (d n g : Nat) (x : Nm) (L : List Int) (dd : Nat) (hp1 : Hp) (hx : hp1 x = .arr g 1 3 (rowI L) false) (hl : L.length = n) (hd : dd < n) (hn : n ≤ 4000) : (lim Try.prog E31 X31).hpc 0 d 35 [.own x g n, iv dd] hp1 = some (.tup [], upd hp1 x (.arr g 1 3 (rowI (fwdForget L dd)) false)) := by
  have key : ∃ v hp', (lim Try.prog E31 X31).hpc 0 d 35 [.own x g n, iv dd] hp1 = some (v, hp') ∧ (v = .tup [] ∧ hp' x = .arr g 1 3 (rowI (fwdForget L dd)) false ∧ ∀ y, y ≠ x → hp' y = hp1 y) := by
    refine lim_hpcW (R := fun v hp' => v = .tup [] ∧ hp' x = .arr g 1 3 (rowI (fwdForget L dd)) false ∧ ∀ y, y ≠ x → hp' y = hp1 y) Try.func35 rfl rfl bodyOk_35 rfl rfl ?_
    subst hl
    repeat' (first
      | ((with_reducible apply Wo_u); (conv => lhs; simp -implicitDefEqProofs [*]) <;> exact rfl)
      | ((with_reducible apply Wo_n); (conv => lhs; simp -implicitDefEqProofs [*]) <;> exact rfl)
      | (with_reducible apply Wo_nil)
      | ((with_reducible apply Wo_gt); (exact rfl); ((conv => lhs; simp -implicitDefEqProofs [*]) <;> exact rfl); (conv => lhs; simp -implicitDefEqProofs [*]) <;> exact rfl)
      | ((with_reducible apply Wo_gf); (exact rfl); ((conv => lhs; simp -implicitDefEqProofs [*]) <;> exact rfl); (exact rfl))
      | ((with_reducible apply Wo_gx); (exact rfl); ((conv => lhs; simp -implicitDefEqProofs [*]) <;> exact rfl))
      | ((with_reducible apply Wo_gsT); (exact rfl); ((conv => lhs; simp -implicitDefEqProofs [*]) <;> exact rfl))
      | ((with_reducible apply Wo_gsF); (exact rfl); ((conv => lhs; simp -implicitDefEqProofs [*]) <;> exact rfl))
      | ((with_reducible apply ex2); (conv => lhs; simp -implicitDefEqProofs [*]) <;> exact rfl)
      | (with_reducible apply W_ss) | (with_reducible apply W_srl) | (with_reducible apply W_rl)
      | ((with_reducible apply W_sc); (conv => lhs; simp -implicitDefEqProofs [*]) <;> exact rfl)
      | ((with_reducible apply W_c); (conv => lhs; simp -implicitDefEqProofs [*]) <;> exact rfl)
      | ((with_reducible apply W_srdl); kernel_rfl) | ((with_reducible apply W_rdl); kernel_rfl)
      | ((with_reducible apply Wd_u); (conv => lhs; simp -implicitDefEqProofs [*]) <;> exact rfl)
      | ((with_reducible apply Wd_n); (conv => lhs; simp -implicitDefEqProofs [*]) <;> exact rfl)
      | ((with_reducible apply Wd_nil); exact rfl)
      | ((with_reducible apply Wd_gsT); (exact rfl); ((conv => lhs; simp -implicitDefEqProofs [*]) <;> exact rfl))
      | ((with_reducible apply Wd_gsF); (exact rfl); ((conv => lhs; simp -implicitDefEqProofs [*]) <;> exact rfl))
      | ((with_reducible apply ex4); (conv => lhs; simp -implicitDefEqProofs [*]) <;> exact rfl)
      | (with_reducible apply W_sblock) | (with_reducible apply W_block) | (with_reducible apply W_sskip) | (with_reducible apply W_skip) | (with_reducible apply W_sret) | (with_reducible apply W_ret) | (with_reducible apply W_sexit) | (with_reducible apply W_exit)
      | (with_reducible apply thenW_n) | (with_reducible apply thenW_r) | (with_reducible apply thenW_e) | (with_reducible apply inB_n) | (with_reducible apply inB_r) | (with_reducible apply inB_e) | ((with_reducible apply inB_o); rotate_left; exact rfl)
      | ((with_reducible apply EndQ_ret); (conv => lhs; simp -implicitDefEqProofs [*]) <;> exact rfl) | ((with_reducible apply EndQ_normal); (conv => lhs; simp -implicitDefEqProofs [*]) <;> exact rfl)
      | (intro h h'; try simp [*, -h] at h'))
    refine W_loopS (n := L.length) (fun s0 m s => ∃ k : Nat, m = L.length - k ∧ k ≤ L.length ∧ s.fr 4 = iv k ∧ s.fr 0 = s0.fr 0 ∧ s.fr 1 = s0.fr 1 ∧ s.hp x = .arr g 1 3 (rowI (fgtAt L dd k)) false ∧ ∀ y, y ≠ x → s.hp y = s0.hp y) ⟨0, by simp, by simp, by simp, by simp, by simp, by simp [fgtAt_zero, hx], by simp⟩ ?_
    rintro m ⟨fr, hp⟩ ⟨k, rfl, hk, hs4, hs0, hs1, hh, HY⟩
    simp at hs4 hs0 hs1 hh
    have HY := Lib.hid HY
    rename_i HY0
    clear HY0
    have hlen := fgtAt_len L dd k
    by_cases hlt : k < L.length
    · have hg := List.getElem?_eq_getElem hlt
      have hw := wrapN (k := k) (by omega)
      have hgt := fgtAt_get (d := dd) hlt
      have hsu := fgtAt_succ (d := dd) hlt
      have HS := Lib.hid hsu
      clear hsu
      repeat' (first
        | ((with_reducible apply Wo_u); (conv => lhs; simp -implicitDefEqProofs [*]) <;> exact rfl)
        | ((with_reducible apply Wo_n); (conv => lhs; simp -implicitDefEqProofs [*]) <;> exact rfl)
        | (with_reducible apply Wo_nil)
        | ((with_reducible apply Wo_gt); (exact rfl); ((conv => lhs; simp -implicitDefEqProofs [*]) <;> exact rfl); (conv => lhs; simp -implicitDefEqProofs [*]) <;> exact rfl)
        | ((with_reducible apply Wo_gf); (exact rfl); ((conv => lhs; simp -implicitDefEqProofs [*]) <;> exact rfl); (exact rfl))
        | ((with_reducible apply Wo_gx); (exact rfl); ((conv => lhs; simp -implicitDefEqProofs [*]) <;> exact rfl))
        | ((with_reducible apply Wo_gsT); (exact rfl); ((conv => lhs; simp -implicitDefEqProofs [*]) <;> exact rfl))
        | ((with_reducible apply Wo_gsF); (exact rfl); ((conv => lhs; simp -implicitDefEqProofs [*]) <;> exact rfl))
        | ((with_reducible apply ex2); (conv => lhs; simp -implicitDefEqProofs [*]) <;> exact rfl)
        | (with_reducible apply W_ss) | (with_reducible apply W_srl) | (with_reducible apply W_rl)
        | ((with_reducible apply W_sc); (conv => lhs; simp -implicitDefEqProofs [*]) <;> exact rfl)
        | ((with_reducible apply W_c); (conv => lhs; simp -implicitDefEqProofs [*]) <;> exact rfl)
        | ((with_reducible apply W_srdl); kernel_rfl) | ((with_reducible apply W_rdl); kernel_rfl)
        | ((with_reducible apply Wd_u); (conv => lhs; simp -implicitDefEqProofs [*]) <;> exact rfl)
        | ((with_reducible apply Wd_n); (conv => lhs; simp -implicitDefEqProofs [*]) <;> exact rfl)
        | ((with_reducible apply Wd_nil); exact rfl)
        | ((with_reducible apply Wd_gsT); (exact rfl); ((conv => lhs; simp -implicitDefEqProofs [*]) <;> exact rfl))
        | ((with_reducible apply Wd_gsF); (exact rfl); ((conv => lhs; simp -implicitDefEqProofs [*]) <;> exact rfl))
        | ((with_reducible apply ex4); (conv => lhs; simp -implicitDefEqProofs [*]) <;> exact rfl)
        | (with_reducible apply W_sblock) | (with_reducible apply W_block) | (with_reducible apply W_sskip) | (with_reducible apply W_skip) | (with_reducible apply W_sret) | (with_reducible apply W_ret) | (with_reducible apply W_sexit) | (with_reducible apply W_exit)
        | (with_reducible apply thenW_n) | (with_reducible apply thenW_r) | (with_reducible apply thenW_e) | (with_reducible apply inB_n) | (with_reducible apply inB_r) | (with_reducible apply inB_e) | ((with_reducible apply inB_o); rotate_left; exact rfl)
        | ((with_reducible apply EndQ_ret); (conv => lhs; simp -implicitDefEqProofs [*]) <;> exact rfl) | ((with_reducible apply EndQ_normal); (conv => lhs; simp -implicitDefEqProofs [*]) <;> exact rfl)
        | (intro h h'; try simp [*, -h] at h'))
      · refine ⟨_, by omega, k + 1, rfl, hlt, by simp, by simp [*], by simp [*], ?_, fun y hy => by simp [hy]; exact HY.out y hy⟩
        simp [*, HS.out, List.map_set]
      · refine ⟨_, by omega, k + 1, rfl, hlt, by simp, by simp [*], by simp [*], ?_, fun y hy => by simp [hy]; exact HY.out y hy⟩
        simp [*, HS.out]
    · obtain rfl : k = L.length := by omega
      repeat' (first
        | ((with_reducible apply Wo_u); (conv => lhs; simp -implicitDefEqProofs [*]) <;> exact rfl)
        | ((with_reducible apply Wo_n); (conv => lhs; simp -implicitDefEqProofs [*]) <;> exact rfl)
        | (with_reducible apply Wo_nil)
        | ((with_reducible apply Wo_gt); (exact rfl); ((conv => lhs; simp -implicitDefEqProofs [*]) <;> exact rfl); (conv => lhs; simp -implicitDefEqProofs [*]) <;> exact rfl)
        | ((with_reducible apply Wo_gf); (exact rfl); ((conv => lhs; simp -implicitDefEqProofs [*]) <;> exact rfl); (exact rfl))
        | ((with_reducible apply Wo_gx); (exact rfl); ((conv => lhs; simp -implicitDefEqProofs [*]) <;> exact rfl))
        | ((with_reducible apply Wo_gsT); (exact rfl); ((conv => lhs; simp -implicitDefEqProofs [*]) <;> exact rfl))
        | ((with_reducible apply Wo_gsF); (exact rfl); ((conv => lhs; simp -implicitDefEqProofs [*]) <;> exact rfl))
        | ((with_reducible apply ex2); (conv => lhs; simp -implicitDefEqProofs [*]) <;> exact rfl)
        | (with_reducible apply W_ss) | (with_reducible apply W_srl) | (with_reducible apply W_rl)
        | ((with_reducible apply W_sc); (conv => lhs; simp -implicitDefEqProofs [*]) <;> exact rfl)
        | ((with_reducible apply W_c); (conv => lhs; simp -implicitDefEqProofs [*]) <;> exact rfl)
        | ((with_reducible apply W_srdl); kernel_rfl) | ((with_reducible apply W_rdl); kernel_rfl)
        | ((with_reducible apply Wd_u); (conv => lhs; simp -implicitDefEqProofs [*]) <;> exact rfl)
        | ((with_reducible apply Wd_n); (conv => lhs; simp -implicitDefEqProofs [*]) <;> exact rfl)
        | ((with_reducible apply Wd_nil); exact rfl)
        | ((with_reducible apply Wd_gsT); (exact rfl); ((conv => lhs; simp -implicitDefEqProofs [*]) <;> exact rfl))
        | ((with_reducible apply Wd_gsF); (exact rfl); ((conv => lhs; simp -implicitDefEqProofs [*]) <;> exact rfl))
        | ((with_reducible apply ex4); (conv => lhs; simp -implicitDefEqProofs [*]) <;> exact rfl)
        | (with_reducible apply W_sblock) | (with_reducible apply W_block) | (with_reducible apply W_sskip) | (with_reducible apply W_skip) | (with_reducible apply W_sret) | (with_reducible apply W_ret) | (with_reducible apply W_sexit) | (with_reducible apply W_exit)
        | (with_reducible apply thenW_n) | (with_reducible apply thenW_r) | (with_reducible apply thenW_e) | (with_reducible apply inB_n) | (with_reducible apply inB_r) | (with_reducible apply inB_e) | ((with_reducible apply inB_o); rotate_left; exact rfl)
        | ((with_reducible apply EndQ_ret); (conv => lhs; simp -implicitDefEqProofs [*]) <;> exact rfl) | ((with_reducible apply EndQ_normal); (conv => lhs; simp -implicitDefEqProofs [*]) <;> exact rfl)
        | (intro h h'; try simp [*, -h] at h'))
      refine ⟨nofun, _, _, rfl, rfl, ?_, fun y hy => by simp [hy]; exact HY.out y hy⟩
      simp [← fgtAt_all, List.map_set]
  obtain ⟨v, hp', h1, rfl, h2, h3⟩ := key
  rw [h1]
  congr 2
  funext y
  by_cases e : y = x
  · subst e; simp [h2]
  · simp [e, h3 y e]
end Go.Proofs.Ytmfhdhiaokejdaa

namespace Go.Proofs.Ytmfhdhiaokejdaa
open Go Go.Ab
set_option linter.unusedSimpArgs false
set_option linter.unusedVariables false
/-- The first k. -/
def preK (l : List (List AV)) (k : Nat) : List (List AV) := l.take k
theorem preK_zero (l : List (List AV)) : preK l 0 = [] := rfl
theorem preK_len {l : List (List AV)} {k : Nat} (h : k ≤ l.length) : (preK l k).length = k := by simp [preK]; omega
theorem preK_succ {l : List (List AV)} {k : Nat} {r : List AV} (h : l[k]? = some r) : preK l k ++ [r] = preK l (k + 1) := by
  unfold preK
  rw [List.take_add_one, h]; rfl
theorem preK_all (l : List (List AV)) : preK l l.length = l := by simp [preK]
abbrev outK (l0 : List Int) (ins : List Tac) (k : Nat) : List (List AV) := preK ((outs l0 ins).map Tac.row) k
theorem idL_succ (k : Nat) : rowI (idL k) ++ [[iv k]] = rowI (idL (k + 1)) := by simp [rowI, idL, List.range_succ]
theorem h33 {L : List Int} {n : Nat} (hr : Rng L n) {a : Int} (h0 : 0 ≤ a) (h1 : a < n) : (lim Try.prog E31 X31).dat 33 [.sl false 1 (rowI L), iv a] = some [iv (atL L a)] := by
  have := d33 L a.toNat (atL L a) (atL_get hr h0 h1).1
  rw [Int.toNat_of_nonneg h0] at this
  exact this
theorem h35' {L : List Int} {n : Nat} (hr : Rng L n) (hn : n ≤ 4000) (d g : Nat) (x : Nm) {s : Int} (h0 : 0 ≤ s) (h1 : s < n) (hp1 : Hp) (hx : hp1 x = .arr g 1 3 (rowI L) false) : (lim Try.prog E31 X31).hpc 0 d 35 [.own x g n, iv s] hp1 = some (.tup [], upd hp1 x (.arr g 1 3 (rowI (fwdForget L s.toNat)) false)) := by
  have := h35 d n g x L s.toNat hp1 hx hr.1 (by omega) hn
  rw [Int.toNat_of_nonneg h0] at this
  exact this
theorem out_row {l0 : List Int} {ins : List Tac} {k : Nat} {t : Tac} (h : ins[k]? = some t) : outK l0 ins k ++ [(fwdTac (stN l0 ins k) t).row] = outK l0 ins (k + 1) := preK_succ (by rw [List.getElem?_map, outs_get, h]; rfl)
theorem fwd_self {L : List Int} {n : Nat} (hr : Rng L n) {t : Tac} (hop : t.op = 2) (hs : 0 ≤ t.sets) (h1 : t.sets < n) : (rowI (fwdForget L t.sets.toNat)).set t.sets.toNat [iv (atL L t.a)] = rowI (fwdStep L t) := by
  rw [rowI_set]
  unfold fwdStep
  rw [if_pos hs]
  by_cases e : atL L t.a = t.sets
  · rw [if_neg (fun h => h.2 e), e]
    congr 1
    apply List.ext_getElem?
    intro j
    rw [List.getElem?_set]
    split
    · rename_i hj
      subst hj
      rw [forget_get, forget_len, if_pos (by rw [hr.1]; omega), if_pos (by rw [hr.1]; omega), Int.toNat_of_nonneg hs]
    · rfl
  · rw [if_pos ⟨hop, e⟩]
set_option maxHeartbeats 8000000 in
theorem d23 (b : Blk) (n : Nat) (hn : n ≤ 4000) (hlen : b.ins.length ≤ 100000) (hb : b.okR n) (hcp : ∀ t ∈ b.ins, t.op = 2 → 0 ≤ t.sets) : (lim Try.prog E31 X31).dat 23 [.agg [.sl false 8 (b.ins.map Tac.row), iv b.en, iv b.v, iv b.to, iv b.el], iv n] = some [.agg [.vec 8 ((fwdBlk n b).ins.map Tac.row), iv b.en, iv (fwdBlk n b).v, iv b.to, iv b.el]] := by
  refine fnW Try.func23 rfl rfl bodyOk_23 rfl rtys_23 rfl ?_
  have hb := hb
  have HB0 := Lib.hid hb
  have HC0 := Lib.hid hcp
  clear hb hcp
  repeat' (first
    | ((with_reducible apply Wo_u); (conv => lhs; simp -implicitDefEqProofs [*]) <;> exact rfl)
    | ((with_reducible apply Wo_n); (conv => lhs; simp -implicitDefEqProofs [*]) <;> exact rfl)
    | (with_reducible apply Wo_nil)
    | ((with_reducible apply Wo_gt); (exact rfl); ((conv => lhs; simp -implicitDefEqProofs [*]) <;> exact rfl); (conv => lhs; simp -implicitDefEqProofs [*]) <;> exact rfl)
    | ((with_reducible apply Wo_gf); (exact rfl); ((conv => lhs; simp -implicitDefEqProofs [*]) <;> exact rfl); (exact rfl))
    | ((with_reducible apply Wo_gx); (exact rfl); ((conv => lhs; simp -implicitDefEqProofs [*]) <;> exact rfl))
    | ((with_reducible apply Wo_gsT); (exact rfl); ((conv => lhs; simp -implicitDefEqProofs [*]) <;> exact rfl))
    | ((with_reducible apply Wo_gsF); (exact rfl); ((conv => lhs; simp -implicitDefEqProofs [*]) <;> exact rfl))
    | ((with_reducible apply ex2); (conv => lhs; simp -implicitDefEqProofs [*]) <;> exact rfl)
    | (with_reducible apply W_ss) | (with_reducible apply W_srl) | (with_reducible apply W_rl)
    | ((with_reducible apply W_sc); (conv => lhs; simp -implicitDefEqProofs [*]) <;> exact rfl)
    | ((with_reducible apply W_c); (conv => lhs; simp -implicitDefEqProofs [*]) <;> exact rfl)
    | ((with_reducible apply W_srdl); kernel_rfl) | ((with_reducible apply W_rdl); kernel_rfl)
    | ((with_reducible apply Wd_u); (conv => lhs; simp -implicitDefEqProofs [*]) <;> exact rfl)
    | ((with_reducible apply Wd_n); (conv => lhs; simp -implicitDefEqProofs [*]) <;> exact rfl)
    | ((with_reducible apply Wd_nil); exact rfl)
    | ((with_reducible apply Wd_gsT); (exact rfl); ((conv => lhs; simp -implicitDefEqProofs [*]) <;> exact rfl))
    | ((with_reducible apply Wd_gsF); (exact rfl); ((conv => lhs; simp -implicitDefEqProofs [*]) <;> exact rfl))
    | ((with_reducible apply ex4); (conv => lhs; simp -implicitDefEqProofs [*]) <;> exact rfl)
    | (with_reducible apply W_sblock) | (with_reducible apply W_block) | (with_reducible apply W_sskip) | (with_reducible apply W_skip) | (with_reducible apply W_sret) | (with_reducible apply W_ret) | (with_reducible apply W_sexit) | (with_reducible apply W_exit)
    | (with_reducible apply thenW_n) | (with_reducible apply thenW_r) | (with_reducible apply thenW_e) | (with_reducible apply inB_n) | (with_reducible apply inB_r) | (with_reducible apply inB_e) | ((with_reducible apply inB_o); rotate_left; exact rfl)
    | ((with_reducible apply EndQ_ret); (conv => lhs; simp -implicitDefEqProofs [*]) <;> exact rfl) | ((with_reducible apply EndQ_normal); (conv => lhs; simp -implicitDefEqProofs [*]) <;> exact rfl)
    | (intro h h'; try simp [*, -h] at h'))
  refine W_loopS (n := n) (fun s0 m s => ∃ k g : Nat, m = n - k ∧ k ≤ n ∧ s.fr 6 = iv k ∧ s.fr 5 = .own ⟨0, 5, 0⟩ g k ∧ s.fr 1 = s0.fr 1 ∧ s.fr 2 = s0.fr 2 ∧ s.fr 4 = s0.fr 4 ∧ s.hp ⟨0, 2, 0⟩ = s0.hp ⟨0, 2, 0⟩ ∧ s.hp ⟨0, 4, 0⟩ = s0.hp ⟨0, 4, 0⟩ ∧ s.hp ⟨0, 4, 1⟩ = s0.hp ⟨0, 4, 1⟩ ∧ s.hp ⟨0, 7, 0⟩ = s0.hp ⟨0, 7, 0⟩ ∧ s.hp ⟨0, 7, 1⟩ = s0.hp ⟨0, 7, 1⟩ ∧ s.hp ⟨0, 5, 0⟩ = .arr g 1 3 (rowI (idL k)) false) ⟨0, 1, by simp, by simp, by simp, by simp, by simp, by simp, by simp, by simp, by simp, by simp, by simp, by simp, by simp [idL]⟩ ?_
  rintro m ⟨fr, hp⟩ ⟨k, g, rfl, hk, hs6, hs5, hs1, hs2, hs4, hh2, hh4, hh41, hh7, hh71, hh5⟩
  simp at hs6 hs5 hs1 hs2 hs4 hh2 hh4 hh41 hh7 hh71 hh5
  by_cases hlt : k < n
  · have hw := wrapN (k := k) (by omega)
    have hid := idL_succ k
    have hil := idL_len k
    have hby : (k + 1) * 8 ≤ 140737488355328 := by omega
    have hby2 : k ≤ 9223372036854775806 := by omega
    repeat' (first
      | ((with_reducible apply Wo_u); (conv => lhs; simp -implicitDefEqProofs [*]) <;> exact rfl)
      | ((with_reducible apply Wo_n); (conv => lhs; simp -implicitDefEqProofs [*]) <;> exact rfl)
      | (with_reducible apply Wo_nil)
      | ((with_reducible apply Wo_gt); (exact rfl); ((conv => lhs; simp -implicitDefEqProofs [*]) <;> exact rfl); (conv => lhs; simp -implicitDefEqProofs [*]) <;> exact rfl)
      | ((with_reducible apply Wo_gf); (exact rfl); ((conv => lhs; simp -implicitDefEqProofs [*]) <;> exact rfl); (exact rfl))
      | ((with_reducible apply Wo_gx); (exact rfl); ((conv => lhs; simp -implicitDefEqProofs [*]) <;> exact rfl))
      | ((with_reducible apply Wo_gsT); (exact rfl); ((conv => lhs; simp -implicitDefEqProofs [*]) <;> exact rfl))
      | ((with_reducible apply Wo_gsF); (exact rfl); ((conv => lhs; simp -implicitDefEqProofs [*]) <;> exact rfl))
      | ((with_reducible apply ex2); (conv => lhs; simp -implicitDefEqProofs [*]) <;> exact rfl)
      | (with_reducible apply W_ss) | (with_reducible apply W_srl) | (with_reducible apply W_rl)
      | ((with_reducible apply W_sc); (conv => lhs; simp -implicitDefEqProofs [*]) <;> exact rfl)
      | ((with_reducible apply W_c); (conv => lhs; simp -implicitDefEqProofs [*]) <;> exact rfl)
      | ((with_reducible apply W_srdl); kernel_rfl) | ((with_reducible apply W_rdl); kernel_rfl)
      | ((with_reducible apply Wd_u); (conv => lhs; simp -implicitDefEqProofs [*]) <;> exact rfl)
      | ((with_reducible apply Wd_n); (conv => lhs; simp -implicitDefEqProofs [*]) <;> exact rfl)
      | ((with_reducible apply Wd_nil); exact rfl)
      | ((with_reducible apply Wd_gsT); (exact rfl); ((conv => lhs; simp -implicitDefEqProofs [*]) <;> exact rfl))
      | ((with_reducible apply Wd_gsF); (exact rfl); ((conv => lhs; simp -implicitDefEqProofs [*]) <;> exact rfl))
      | ((with_reducible apply ex4); (conv => lhs; simp -implicitDefEqProofs [*]) <;> exact rfl)
      | (with_reducible apply W_sblock) | (with_reducible apply W_block) | (with_reducible apply W_sskip) | (with_reducible apply W_skip) | (with_reducible apply W_sret) | (with_reducible apply W_ret) | (with_reducible apply W_sexit) | (with_reducible apply W_exit)
      | (with_reducible apply thenW_n) | (with_reducible apply thenW_r) | (with_reducible apply thenW_e) | (with_reducible apply inB_n) | (with_reducible apply inB_r) | (with_reducible apply inB_e) | ((with_reducible apply inB_o); rotate_left; exact rfl)
      | ((with_reducible apply EndQ_ret); (conv => lhs; simp -implicitDefEqProofs [*]) <;> exact rfl) | ((with_reducible apply EndQ_normal); (conv => lhs; simp -implicitDefEqProofs [*]) <;> exact rfl)
      | (intro h h'; try simp [*, -h] at h'))
    exact ⟨_, by omega, k + 1, g + 1, rfl, hlt, by simp, by simp [*], by simp [*], by simp [*], by simp [*], by simp [*], by simp [*], by simp [*], by simp [*], by simp [*], by simp [*]⟩
  · obtain rfl : n = k := by omega
    have hil := idL_len n
    repeat' (first
      | ((with_reducible apply Wo_u); (conv => lhs; simp -implicitDefEqProofs [*]) <;> exact rfl)
      | ((with_reducible apply Wo_n); (conv => lhs; simp -implicitDefEqProofs [*]) <;> exact rfl)
      | (with_reducible apply Wo_nil)
      | ((with_reducible apply Wo_gt); (exact rfl); ((conv => lhs; simp -implicitDefEqProofs [*]) <;> exact rfl); (conv => lhs; simp -implicitDefEqProofs [*]) <;> exact rfl)
      | ((with_reducible apply Wo_gf); (exact rfl); ((conv => lhs; simp -implicitDefEqProofs [*]) <;> exact rfl); (exact rfl))
      | ((with_reducible apply Wo_gx); (exact rfl); ((conv => lhs; simp -implicitDefEqProofs [*]) <;> exact rfl))
      | ((with_reducible apply Wo_gsT); (exact rfl); ((conv => lhs; simp -implicitDefEqProofs [*]) <;> exact rfl))
      | ((with_reducible apply Wo_gsF); (exact rfl); ((conv => lhs; simp -implicitDefEqProofs [*]) <;> exact rfl))
      | ((with_reducible apply ex2); (conv => lhs; simp -implicitDefEqProofs [*]) <;> exact rfl)
      | (with_reducible apply W_ss) | (with_reducible apply W_srl) | (with_reducible apply W_rl)
      | ((with_reducible apply W_sc); (conv => lhs; simp -implicitDefEqProofs [*]) <;> exact rfl)
      | ((with_reducible apply W_c); (conv => lhs; simp -implicitDefEqProofs [*]) <;> exact rfl)
      | ((with_reducible apply W_srdl); kernel_rfl) | ((with_reducible apply W_rdl); kernel_rfl)
      | ((with_reducible apply Wd_u); (conv => lhs; simp -implicitDefEqProofs [*]) <;> exact rfl)
      | ((with_reducible apply Wd_n); (conv => lhs; simp -implicitDefEqProofs [*]) <;> exact rfl)
      | ((with_reducible apply Wd_nil); exact rfl)
      | ((with_reducible apply Wd_gsT); (exact rfl); ((conv => lhs; simp -implicitDefEqProofs [*]) <;> exact rfl))
      | ((with_reducible apply Wd_gsF); (exact rfl); ((conv => lhs; simp -implicitDefEqProofs [*]) <;> exact rfl))
      | ((with_reducible apply ex4); (conv => lhs; simp -implicitDefEqProofs [*]) <;> exact rfl)
      | (with_reducible apply W_sblock) | (with_reducible apply W_block) | (with_reducible apply W_sskip) | (with_reducible apply W_skip) | (with_reducible apply W_sret) | (with_reducible apply W_ret) | (with_reducible apply W_sexit) | (with_reducible apply W_exit)
      | (with_reducible apply thenW_n) | (with_reducible apply thenW_r) | (with_reducible apply thenW_e) | (with_reducible apply inB_n) | (with_reducible apply inB_r) | (with_reducible apply inB_e) | ((with_reducible apply inB_o); rotate_left; exact rfl)
      | ((with_reducible apply EndQ_ret); (conv => lhs; simp -implicitDefEqProofs [*]) <;> exact rfl) | ((with_reducible apply EndQ_normal); (conv => lhs; simp -implicitDefEqProofs [*]) <;> exact rfl)
      | (intro h h'; try simp [*, -h] at h'))
    refine W_loopS (n := b.ins.length) (fun s0 m s => ∃ j g2 : Nat, m = b.ins.length - j ∧ j ≤ b.ins.length ∧ s.fr 8 = iv j ∧ s.fr 5 = s0.fr 5 ∧ s.fr 7 = s0.fr 7 ∧ s.fr 2 = s0.fr 2 ∧ s.fr 4 = s0.fr 4 ∧ s.hp ⟨0, 2, 0⟩ = s0.hp ⟨0, 2, 0⟩ ∧ s.hp ⟨0, 4, 0⟩ = s0.hp ⟨0, 4, 0⟩ ∧ s.hp ⟨0, 4, 1⟩ = s0.hp ⟨0, 4, 1⟩ ∧ s.hp ⟨0, 5, 0⟩ = .arr g 1 3 (rowI (stN (idL n) b.ins j)) false ∧ s.hp ⟨0, 7, 0⟩ = .box (s0.hp ⟨0, 7, 0⟩).gen [.own ⟨0, 7, 1⟩ g2 j, iv b.en, iv b.v, iv b.to, iv b.el] false ∧ s.hp ⟨0, 7, 1⟩ = .arr g2 8 40 (outK (idL n) b.ins j) false) ⟨0, 2, by simp, by simp, by simp, by simp, by simp, by simp, by simp, by simp, by simp, by simp, by simp [*, stN_zero], by simp [*], by simp [*, preK_zero]⟩ ?_
    rintro m ⟨fr, hp⟩ ⟨k, g2, rfl, hk2, hs8, hs5, hs7, hs2, hs4, hh2, hh4, hh41, hh5, hh7, hh71⟩
    simp at hs8 hs5 hs7 hs2 hs4 hh2 hh4 hh41 hh5 hh7 hh71
    have hb := HB0.out
    have hcp := HC0.out
    have hr := stN_rng (idL_rng n) hb.ins k hk2
    have htk : (rowI (stN (idL n) b.ins k)).take n = rowI (stN (idL n) b.ins k) := List.take_of_length_le (by simp [hr.1])
    have hol := preK_len (l := (outs (idL n) b.ins).map Tac.row) (k := k) (by simp [outs_len]; omega)
    have hLl := hr.1
    clear hlt
    by_cases hlt : k < b.ins.length
    · have hg := List.getElem?_eq_getElem hlt
      have hw := wrapN (k := k) (by omega)
      have hby : (k + 1) * 64 ≤ 140737488355328 := by omega
      have hby2 : k ≤ 9223372036854775806 := by omega
      by_cases hop : b.ins[k].op = 2
      · have h1 : b.ins[k].op = 2 ∨ b.ins[k].op = 5 ∨ b.ins[k].op = 6 ∨ b.ins[k].op = 9 := .inl hop
        have hu : usesL 2 b.ins[k].a b.ins[k].b = [b.ins[k].a] := by rfl
        have ha := uses_a (hb.ins _ (List.getElem_mem hlt)) (by omega)
        have hA := h33 hr ha.1 ha.2
        have hft : fwdTac (stN (idL n) b.ins k) b.ins[k] = ⟨b.ins[k].op, b.ins[k].d, atL (stN (idL n) b.ins k) b.ins[k].a, b.ins[k].b, b.ins[k].k, b.ins[k].base, b.ins[k].size, b.ins[k].n⟩ := by rw [fwdTac, if_pos h1]
        have hsz : setsZ 2 b.ins[k].d = b.ins[k].d := rfl
        have hs : 0 ≤ b.ins[k].sets := hcp _ (List.getElem_mem hlt) hop
        have hsn : b.ins[k].sets < n := (hb.ins _ (List.getElem_mem hlt)).2 hs
        have esz : b.ins[k].sets = b.ins[k].d := by unfold Tac.sets; rw [hop]; rfl
        have hset := fwd_self hr hop hs hsn
        rw [esz] at hset hs hsn
        have hfl : (fwdForget (stN (idL n) b.ins k) b.ins[k].d.toNat).length = n := by rw [forget_len, hr.1]
        have hdl : b.ins[k].d.toNat < n := by omega
        have hF := fun hp1 hx => h35' hr hn 66 g ⟨0, 5, 0⟩ hs hsn hp1 hx
        have hst := congrArg rowI (stN_succ (l0 := idL n) hg)
        rw [← hset] at hst
        have hor := out_row (l0 := idL n) hg
        rw [hft] at hor
        simp only [Tac.row, hop] at hor
        have HB := Lib.hid hb
        have HC := Lib.hid hcp
        have HR := Lib.hid hr
        clear hft hcp hb hr
        repeat' (first
          | ((with_reducible apply Wo_u); (conv => lhs; simp -implicitDefEqProofs [*]) <;> exact rfl)
          | ((with_reducible apply Wo_n); (conv => lhs; simp -implicitDefEqProofs [*]) <;> exact rfl)
          | (with_reducible apply Wo_nil)
          | ((with_reducible apply Wo_gt); (exact rfl); ((conv => lhs; simp -implicitDefEqProofs [*]) <;> exact rfl); (conv => lhs; simp -implicitDefEqProofs [*]) <;> exact rfl)
          | ((with_reducible apply Wo_gf); (exact rfl); ((conv => lhs; simp -implicitDefEqProofs [*]) <;> exact rfl); (exact rfl))
          | ((with_reducible apply Wo_gx); (exact rfl); ((conv => lhs; simp -implicitDefEqProofs [*]) <;> exact rfl))
          | ((with_reducible apply Wo_gsT); (exact rfl); ((conv => lhs; simp -implicitDefEqProofs [*]) <;> exact rfl))
          | ((with_reducible apply Wo_gsF); (exact rfl); ((conv => lhs; simp -implicitDefEqProofs [*]) <;> exact rfl))
          | ((with_reducible apply ex2); (conv => lhs; simp -implicitDefEqProofs [*]) <;> exact rfl)
          | (with_reducible apply W_ss) | (with_reducible apply W_srl) | (with_reducible apply W_rl)
          | ((with_reducible apply W_sc); (conv => lhs; simp -implicitDefEqProofs [*]) <;> exact rfl)
          | ((with_reducible apply W_c); (conv => lhs; simp -implicitDefEqProofs [*]) <;> exact rfl)
          | ((with_reducible apply W_srdl); kernel_rfl) | ((with_reducible apply W_rdl); kernel_rfl)
          | ((with_reducible apply Wd_u); (conv => lhs; simp -implicitDefEqProofs [*]) <;> exact rfl)
          | ((with_reducible apply Wd_n); (conv => lhs; simp -implicitDefEqProofs [*]) <;> exact rfl)
          | ((with_reducible apply Wd_nil); exact rfl)
          | ((with_reducible apply Wd_gsT); (exact rfl); ((conv => lhs; simp -implicitDefEqProofs [*]) <;> exact rfl))
          | ((with_reducible apply Wd_gsF); (exact rfl); ((conv => lhs; simp -implicitDefEqProofs [*]) <;> exact rfl))
          | ((with_reducible apply ex4); (conv => lhs; simp -implicitDefEqProofs [*]) <;> exact rfl)
          | (with_reducible apply W_sblock) | (with_reducible apply W_block) | (with_reducible apply W_sskip) | (with_reducible apply W_skip) | (with_reducible apply W_sret) | (with_reducible apply W_ret) | (with_reducible apply W_sexit) | (with_reducible apply W_exit)
          | (with_reducible apply thenW_n) | (with_reducible apply thenW_r) | (with_reducible apply thenW_e) | (with_reducible apply inB_n) | (with_reducible apply inB_r) | (with_reducible apply inB_e) | ((with_reducible apply inB_o); rotate_left; exact rfl)
          | ((with_reducible apply EndQ_ret); (conv => lhs; simp -implicitDefEqProofs [*]) <;> exact rfl) | ((with_reducible apply EndQ_normal); (conv => lhs; simp -implicitDefEqProofs [*]) <;> exact rfl)
          | (intro h h'; try simp [*, -h] at h'))
        exact ⟨_, by omega, k + 1, g2 + 1, rfl, hlt, by simp, by simp [*], by simp [*], by simp [*], by simp [*], by simp [*], by simp [*], by simp [*], by simp [*], by simp [*], by simp [*]⟩
      · by_cases h1 : b.ins[k].op = 2 ∨ b.ins[k].op = 5 ∨ b.ins[k].op = 6 ∨ b.ins[k].op = 9
        · by_cases hs : 0 ≤ b.ins[k].sets
          · skip
            have hu : usesL b.ins[k].op b.ins[k].a b.ins[k].b = [b.ins[k].a] := by rw [usesL, if_pos h1]
            have ha := uses_a (hb.ins _ (List.getElem_mem hlt)) (by omega)
            have hA := h33 hr ha.1 ha.2
            have hft : fwdTac (stN (idL n) b.ins k) b.ins[k] = ⟨b.ins[k].op, b.ins[k].d, atL (stN (idL n) b.ins k) b.ins[k].a, b.ins[k].b, b.ins[k].k, b.ins[k].base, b.ins[k].size, b.ins[k].n⟩ := by rw [fwdTac, if_pos h1]
            have hsn : b.ins[k].sets < n := (hb.ins _ (List.getElem_mem hlt)).2 hs
            have hF := fun hp1 hx => h35' hr hn 66 g ⟨0, 5, 0⟩ hs hsn hp1 hx
            have hst : stN (idL n) b.ins (k + 1) = fwdForget (stN (idL n) b.ins k) b.ins[k].sets.toNat := by rw [stN_succ hg]; unfold fwdStep; rw [if_pos hs, if_neg (fun e => hop e.1)]
            unfold Tac.sets at hs hsn hF hst
            have hor := out_row (l0 := idL n) hg
            rw [hft] at hor
            simp only [Tac.row] at hor
            have HB := Lib.hid hb
            have HC := Lib.hid hcp
            have HR := Lib.hid hr
            clear hft hcp hb hr
            clear h1
            repeat' (first
              | ((with_reducible apply Wo_u); (conv => lhs; simp -implicitDefEqProofs [*]) <;> exact rfl)
              | ((with_reducible apply Wo_n); (conv => lhs; simp -implicitDefEqProofs [*]) <;> exact rfl)
              | (with_reducible apply Wo_nil)
              | ((with_reducible apply Wo_gt); (exact rfl); ((conv => lhs; simp -implicitDefEqProofs [*]) <;> exact rfl); (conv => lhs; simp -implicitDefEqProofs [*]) <;> exact rfl)
              | ((with_reducible apply Wo_gf); (exact rfl); ((conv => lhs; simp -implicitDefEqProofs [*]) <;> exact rfl); (exact rfl))
              | ((with_reducible apply Wo_gx); (exact rfl); ((conv => lhs; simp -implicitDefEqProofs [*]) <;> exact rfl))
              | ((with_reducible apply Wo_gsT); (exact rfl); ((conv => lhs; simp -implicitDefEqProofs [*]) <;> exact rfl))
              | ((with_reducible apply Wo_gsF); (exact rfl); ((conv => lhs; simp -implicitDefEqProofs [*]) <;> exact rfl))
              | ((with_reducible apply ex2); (conv => lhs; simp -implicitDefEqProofs [*]) <;> exact rfl)
              | (with_reducible apply W_ss) | (with_reducible apply W_srl) | (with_reducible apply W_rl)
              | ((with_reducible apply W_sc); (conv => lhs; simp -implicitDefEqProofs [*]) <;> exact rfl)
              | ((with_reducible apply W_c); (conv => lhs; simp -implicitDefEqProofs [*]) <;> exact rfl)
              | ((with_reducible apply W_srdl); kernel_rfl) | ((with_reducible apply W_rdl); kernel_rfl)
              | ((with_reducible apply Wd_u); (conv => lhs; simp -implicitDefEqProofs [*]) <;> exact rfl)
              | ((with_reducible apply Wd_n); (conv => lhs; simp -implicitDefEqProofs [*]) <;> exact rfl)
              | ((with_reducible apply Wd_nil); exact rfl)
              | ((with_reducible apply Wd_gsT); (exact rfl); ((conv => lhs; simp -implicitDefEqProofs [*]) <;> exact rfl))
              | ((with_reducible apply Wd_gsF); (exact rfl); ((conv => lhs; simp -implicitDefEqProofs [*]) <;> exact rfl))
              | ((with_reducible apply ex4); (conv => lhs; simp -implicitDefEqProofs [*]) <;> exact rfl)
              | (with_reducible apply W_sblock) | (with_reducible apply W_block) | (with_reducible apply W_sskip) | (with_reducible apply W_skip) | (with_reducible apply W_sret) | (with_reducible apply W_ret) | (with_reducible apply W_sexit) | (with_reducible apply W_exit)
              | (with_reducible apply thenW_n) | (with_reducible apply thenW_r) | (with_reducible apply thenW_e) | (with_reducible apply inB_n) | (with_reducible apply inB_r) | (with_reducible apply inB_e) | ((with_reducible apply inB_o); rotate_left; exact rfl)
              | ((with_reducible apply EndQ_ret); (conv => lhs; simp -implicitDefEqProofs [*]) <;> exact rfl) | ((with_reducible apply EndQ_normal); (conv => lhs; simp -implicitDefEqProofs [*]) <;> exact rfl)
              | (intro h h'; try simp [*, -h] at h'))
            exact ⟨_, by omega, k + 1, g2 + 1, rfl, hlt, by simp, by simp [*], by simp [*], by simp [*], by simp [*], by simp [*], by simp [*], by simp [*], by simp [*], by simp [*], by simp [*]⟩
          · skip
            have hu : usesL b.ins[k].op b.ins[k].a b.ins[k].b = [b.ins[k].a] := by rw [usesL, if_pos h1]
            have ha := uses_a (hb.ins _ (List.getElem_mem hlt)) (by omega)
            have hA := h33 hr ha.1 ha.2
            have hft : fwdTac (stN (idL n) b.ins k) b.ins[k] = ⟨b.ins[k].op, b.ins[k].d, atL (stN (idL n) b.ins k) b.ins[k].a, b.ins[k].b, b.ins[k].k, b.ins[k].base, b.ins[k].size, b.ins[k].n⟩ := by rw [fwdTac, if_pos h1]
            have hst : stN (idL n) b.ins (k + 1) = (stN (idL n) b.ins k) := by rw [stN_succ hg]; unfold fwdStep; rw [if_neg hs]
            unfold Tac.sets at hs
            have hor := out_row (l0 := idL n) hg
            rw [hft] at hor
            simp only [Tac.row] at hor
            have HB := Lib.hid hb
            have HC := Lib.hid hcp
            have HR := Lib.hid hr
            clear hft hcp hb hr
            clear h1
            repeat' (first
              | ((with_reducible apply Wo_u); (conv => lhs; simp -implicitDefEqProofs [*]) <;> exact rfl)
              | ((with_reducible apply Wo_n); (conv => lhs; simp -implicitDefEqProofs [*]) <;> exact rfl)
              | (with_reducible apply Wo_nil)
              | ((with_reducible apply Wo_gt); (exact rfl); ((conv => lhs; simp -implicitDefEqProofs [*]) <;> exact rfl); (conv => lhs; simp -implicitDefEqProofs [*]) <;> exact rfl)
              | ((with_reducible apply Wo_gf); (exact rfl); ((conv => lhs; simp -implicitDefEqProofs [*]) <;> exact rfl); (exact rfl))
              | ((with_reducible apply Wo_gx); (exact rfl); ((conv => lhs; simp -implicitDefEqProofs [*]) <;> exact rfl))
              | ((with_reducible apply Wo_gsT); (exact rfl); ((conv => lhs; simp -implicitDefEqProofs [*]) <;> exact rfl))
              | ((with_reducible apply Wo_gsF); (exact rfl); ((conv => lhs; simp -implicitDefEqProofs [*]) <;> exact rfl))
              | ((with_reducible apply ex2); (conv => lhs; simp -implicitDefEqProofs [*]) <;> exact rfl)
              | (with_reducible apply W_ss) | (with_reducible apply W_srl) | (with_reducible apply W_rl)
              | ((with_reducible apply W_sc); (conv => lhs; simp -implicitDefEqProofs [*]) <;> exact rfl)
              | ((with_reducible apply W_c); (conv => lhs; simp -implicitDefEqProofs [*]) <;> exact rfl)
              | ((with_reducible apply W_srdl); kernel_rfl) | ((with_reducible apply W_rdl); kernel_rfl)
              | ((with_reducible apply Wd_u); (conv => lhs; simp -implicitDefEqProofs [*]) <;> exact rfl)
              | ((with_reducible apply Wd_n); (conv => lhs; simp -implicitDefEqProofs [*]) <;> exact rfl)
              | ((with_reducible apply Wd_nil); exact rfl)
              | ((with_reducible apply Wd_gsT); (exact rfl); ((conv => lhs; simp -implicitDefEqProofs [*]) <;> exact rfl))
              | ((with_reducible apply Wd_gsF); (exact rfl); ((conv => lhs; simp -implicitDefEqProofs [*]) <;> exact rfl))
              | ((with_reducible apply ex4); (conv => lhs; simp -implicitDefEqProofs [*]) <;> exact rfl)
              | (with_reducible apply W_sblock) | (with_reducible apply W_block) | (with_reducible apply W_sskip) | (with_reducible apply W_skip) | (with_reducible apply W_sret) | (with_reducible apply W_ret) | (with_reducible apply W_sexit) | (with_reducible apply W_exit)
              | (with_reducible apply thenW_n) | (with_reducible apply thenW_r) | (with_reducible apply thenW_e) | (with_reducible apply inB_n) | (with_reducible apply inB_r) | (with_reducible apply inB_e) | ((with_reducible apply inB_o); rotate_left; exact rfl)
              | ((with_reducible apply EndQ_ret); (conv => lhs; simp -implicitDefEqProofs [*]) <;> exact rfl) | ((with_reducible apply EndQ_normal); (conv => lhs; simp -implicitDefEqProofs [*]) <;> exact rfl)
              | (intro h h'; try simp [*, -h] at h'))
            exact ⟨_, by omega, k + 1, g2 + 1, rfl, hlt, by simp, by simp [*], by simp [*], by simp [*], by simp [*], by simp [*], by simp [*], by simp [*], by simp [*], by simp [*], by simp [*]⟩
        · by_cases h2 : b.ins[k].op = 3 ∨ b.ins[k].op = 7
          · by_cases hs : 0 ≤ b.ins[k].sets
            · skip
              have hu : usesL b.ins[k].op b.ins[k].a b.ins[k].b = [b.ins[k].a, b.ins[k].b] := by rw [usesL, if_neg h1, if_pos h2]
              have ha := uses_a (hb.ins _ (List.getElem_mem hlt)) (by omega)
              have hA := h33 hr ha.1 ha.2
              have hbb := uses_b (hb.ins _ (List.getElem_mem hlt)) (by omega)
              have hB := h33 hr hbb.1 hbb.2
              have hft : fwdTac (stN (idL n) b.ins k) b.ins[k] = ⟨b.ins[k].op, b.ins[k].d, atL (stN (idL n) b.ins k) b.ins[k].a, atL (stN (idL n) b.ins k) b.ins[k].b, b.ins[k].k, b.ins[k].base, b.ins[k].size, b.ins[k].n⟩ := by rw [fwdTac, if_neg h1, if_pos h2]
              have hsn : b.ins[k].sets < n := (hb.ins _ (List.getElem_mem hlt)).2 hs
              have hF := fun hp1 hx => h35' hr hn 66 g ⟨0, 5, 0⟩ hs hsn hp1 hx
              have hst : stN (idL n) b.ins (k + 1) = fwdForget (stN (idL n) b.ins k) b.ins[k].sets.toNat := by rw [stN_succ hg]; unfold fwdStep; rw [if_pos hs, if_neg (fun e => hop e.1)]
              unfold Tac.sets at hs hsn hF hst
              have hor := out_row (l0 := idL n) hg
              rw [hft] at hor
              simp only [Tac.row] at hor
              have HB := Lib.hid hb
              have HC := Lib.hid hcp
              have HR := Lib.hid hr
              clear hft hcp hb hr
              clear h1
              clear h2
              repeat' (first
                | ((with_reducible apply Wo_u); (conv => lhs; simp -implicitDefEqProofs [*]) <;> exact rfl)
                | ((with_reducible apply Wo_n); (conv => lhs; simp -implicitDefEqProofs [*]) <;> exact rfl)
                | (with_reducible apply Wo_nil)
                | ((with_reducible apply Wo_gt); (exact rfl); ((conv => lhs; simp -implicitDefEqProofs [*]) <;> exact rfl); (conv => lhs; simp -implicitDefEqProofs [*]) <;> exact rfl)
                | ((with_reducible apply Wo_gf); (exact rfl); ((conv => lhs; simp -implicitDefEqProofs [*]) <;> exact rfl); (exact rfl))
                | ((with_reducible apply Wo_gx); (exact rfl); ((conv => lhs; simp -implicitDefEqProofs [*]) <;> exact rfl))
                | ((with_reducible apply Wo_gsT); (exact rfl); ((conv => lhs; simp -implicitDefEqProofs [*]) <;> exact rfl))
                | ((with_reducible apply Wo_gsF); (exact rfl); ((conv => lhs; simp -implicitDefEqProofs [*]) <;> exact rfl))
                | ((with_reducible apply ex2); (conv => lhs; simp -implicitDefEqProofs [*]) <;> exact rfl)
                | (with_reducible apply W_ss) | (with_reducible apply W_srl) | (with_reducible apply W_rl)
                | ((with_reducible apply W_sc); (conv => lhs; simp -implicitDefEqProofs [*]) <;> exact rfl)
                | ((with_reducible apply W_c); (conv => lhs; simp -implicitDefEqProofs [*]) <;> exact rfl)
                | ((with_reducible apply W_srdl); kernel_rfl) | ((with_reducible apply W_rdl); kernel_rfl)
                | ((with_reducible apply Wd_u); (conv => lhs; simp -implicitDefEqProofs [*]) <;> exact rfl)
                | ((with_reducible apply Wd_n); (conv => lhs; simp -implicitDefEqProofs [*]) <;> exact rfl)
                | ((with_reducible apply Wd_nil); exact rfl)
                | ((with_reducible apply Wd_gsT); (exact rfl); ((conv => lhs; simp -implicitDefEqProofs [*]) <;> exact rfl))
                | ((with_reducible apply Wd_gsF); (exact rfl); ((conv => lhs; simp -implicitDefEqProofs [*]) <;> exact rfl))
                | ((with_reducible apply ex4); (conv => lhs; simp -implicitDefEqProofs [*]) <;> exact rfl)
                | (with_reducible apply W_sblock) | (with_reducible apply W_block) | (with_reducible apply W_sskip) | (with_reducible apply W_skip) | (with_reducible apply W_sret) | (with_reducible apply W_ret) | (with_reducible apply W_sexit) | (with_reducible apply W_exit)
                | (with_reducible apply thenW_n) | (with_reducible apply thenW_r) | (with_reducible apply thenW_e) | (with_reducible apply inB_n) | (with_reducible apply inB_r) | (with_reducible apply inB_e) | ((with_reducible apply inB_o); rotate_left; exact rfl)
                | ((with_reducible apply EndQ_ret); (conv => lhs; simp -implicitDefEqProofs [*]) <;> exact rfl) | ((with_reducible apply EndQ_normal); (conv => lhs; simp -implicitDefEqProofs [*]) <;> exact rfl)
                | (intro h h'; try simp [*, -h] at h'))
              exact ⟨_, by omega, k + 1, g2 + 1, rfl, hlt, by simp, by simp [*], by simp [*], by simp [*], by simp [*], by simp [*], by simp [*], by simp [*], by simp [*], by simp [*], by simp [*]⟩
            · skip
              have hu : usesL b.ins[k].op b.ins[k].a b.ins[k].b = [b.ins[k].a, b.ins[k].b] := by rw [usesL, if_neg h1, if_pos h2]
              have ha := uses_a (hb.ins _ (List.getElem_mem hlt)) (by omega)
              have hA := h33 hr ha.1 ha.2
              have hbb := uses_b (hb.ins _ (List.getElem_mem hlt)) (by omega)
              have hB := h33 hr hbb.1 hbb.2
              have hft : fwdTac (stN (idL n) b.ins k) b.ins[k] = ⟨b.ins[k].op, b.ins[k].d, atL (stN (idL n) b.ins k) b.ins[k].a, atL (stN (idL n) b.ins k) b.ins[k].b, b.ins[k].k, b.ins[k].base, b.ins[k].size, b.ins[k].n⟩ := by rw [fwdTac, if_neg h1, if_pos h2]
              have hst : stN (idL n) b.ins (k + 1) = (stN (idL n) b.ins k) := by rw [stN_succ hg]; unfold fwdStep; rw [if_neg hs]
              unfold Tac.sets at hs
              have hor := out_row (l0 := idL n) hg
              rw [hft] at hor
              simp only [Tac.row] at hor
              have HB := Lib.hid hb
              have HC := Lib.hid hcp
              have HR := Lib.hid hr
              clear hft hcp hb hr
              clear h1
              clear h2
              repeat' (first
                | ((with_reducible apply Wo_u); (conv => lhs; simp -implicitDefEqProofs [*]) <;> exact rfl)
                | ((with_reducible apply Wo_n); (conv => lhs; simp -implicitDefEqProofs [*]) <;> exact rfl)
                | (with_reducible apply Wo_nil)
                | ((with_reducible apply Wo_gt); (exact rfl); ((conv => lhs; simp -implicitDefEqProofs [*]) <;> exact rfl); (conv => lhs; simp -implicitDefEqProofs [*]) <;> exact rfl)
                | ((with_reducible apply Wo_gf); (exact rfl); ((conv => lhs; simp -implicitDefEqProofs [*]) <;> exact rfl); (exact rfl))
                | ((with_reducible apply Wo_gx); (exact rfl); ((conv => lhs; simp -implicitDefEqProofs [*]) <;> exact rfl))
                | ((with_reducible apply Wo_gsT); (exact rfl); ((conv => lhs; simp -implicitDefEqProofs [*]) <;> exact rfl))
                | ((with_reducible apply Wo_gsF); (exact rfl); ((conv => lhs; simp -implicitDefEqProofs [*]) <;> exact rfl))
                | ((with_reducible apply ex2); (conv => lhs; simp -implicitDefEqProofs [*]) <;> exact rfl)
                | (with_reducible apply W_ss) | (with_reducible apply W_srl) | (with_reducible apply W_rl)
                | ((with_reducible apply W_sc); (conv => lhs; simp -implicitDefEqProofs [*]) <;> exact rfl)
                | ((with_reducible apply W_c); (conv => lhs; simp -implicitDefEqProofs [*]) <;> exact rfl)
                | ((with_reducible apply W_srdl); kernel_rfl) | ((with_reducible apply W_rdl); kernel_rfl)
                | ((with_reducible apply Wd_u); (conv => lhs; simp -implicitDefEqProofs [*]) <;> exact rfl)
                | ((with_reducible apply Wd_n); (conv => lhs; simp -implicitDefEqProofs [*]) <;> exact rfl)
                | ((with_reducible apply Wd_nil); exact rfl)
                | ((with_reducible apply Wd_gsT); (exact rfl); ((conv => lhs; simp -implicitDefEqProofs [*]) <;> exact rfl))
                | ((with_reducible apply Wd_gsF); (exact rfl); ((conv => lhs; simp -implicitDefEqProofs [*]) <;> exact rfl))
                | ((with_reducible apply ex4); (conv => lhs; simp -implicitDefEqProofs [*]) <;> exact rfl)
                | (with_reducible apply W_sblock) | (with_reducible apply W_block) | (with_reducible apply W_sskip) | (with_reducible apply W_skip) | (with_reducible apply W_sret) | (with_reducible apply W_ret) | (with_reducible apply W_sexit) | (with_reducible apply W_exit)
                | (with_reducible apply thenW_n) | (with_reducible apply thenW_r) | (with_reducible apply thenW_e) | (with_reducible apply inB_n) | (with_reducible apply inB_r) | (with_reducible apply inB_e) | ((with_reducible apply inB_o); rotate_left; exact rfl)
                | ((with_reducible apply EndQ_ret); (conv => lhs; simp -implicitDefEqProofs [*]) <;> exact rfl) | ((with_reducible apply EndQ_normal); (conv => lhs; simp -implicitDefEqProofs [*]) <;> exact rfl)
                | (intro h h'; try simp [*, -h] at h'))
              exact ⟨_, by omega, k + 1, g2 + 1, rfl, hlt, by simp, by simp [*], by simp [*], by simp [*], by simp [*], by simp [*], by simp [*], by simp [*], by simp [*], by simp [*], by simp [*]⟩
          · by_cases hs : 0 ≤ b.ins[k].sets
            · skip
              have hu : usesL b.ins[k].op b.ins[k].a b.ins[k].b = [] := by rw [usesL, if_neg h1, if_neg h2]
              have hft : fwdTac (stN (idL n) b.ins k) b.ins[k] = ⟨b.ins[k].op, b.ins[k].d, b.ins[k].a, b.ins[k].b, b.ins[k].k, b.ins[k].base, b.ins[k].size, b.ins[k].n⟩ := by rw [fwdTac, if_neg h1, if_neg h2]
              have hsn : b.ins[k].sets < n := (hb.ins _ (List.getElem_mem hlt)).2 hs
              have hF := fun hp1 hx => h35' hr hn 66 g ⟨0, 5, 0⟩ hs hsn hp1 hx
              have hst : stN (idL n) b.ins (k + 1) = fwdForget (stN (idL n) b.ins k) b.ins[k].sets.toNat := by rw [stN_succ hg]; unfold fwdStep; rw [if_pos hs, if_neg (fun e => hop e.1)]
              unfold Tac.sets at hs hsn hF hst
              have hor := out_row (l0 := idL n) hg
              rw [hft] at hor
              simp only [Tac.row] at hor
              have HB := Lib.hid hb
              have HC := Lib.hid hcp
              have HR := Lib.hid hr
              clear hft hcp hb hr
              clear h1
              clear h2
              repeat' (first
                | ((with_reducible apply Wo_u); (conv => lhs; simp -implicitDefEqProofs [*]) <;> exact rfl)
                | ((with_reducible apply Wo_n); (conv => lhs; simp -implicitDefEqProofs [*]) <;> exact rfl)
                | (with_reducible apply Wo_nil)
                | ((with_reducible apply Wo_gt); (exact rfl); ((conv => lhs; simp -implicitDefEqProofs [*]) <;> exact rfl); (conv => lhs; simp -implicitDefEqProofs [*]) <;> exact rfl)
                | ((with_reducible apply Wo_gf); (exact rfl); ((conv => lhs; simp -implicitDefEqProofs [*]) <;> exact rfl); (exact rfl))
                | ((with_reducible apply Wo_gx); (exact rfl); ((conv => lhs; simp -implicitDefEqProofs [*]) <;> exact rfl))
                | ((with_reducible apply Wo_gsT); (exact rfl); ((conv => lhs; simp -implicitDefEqProofs [*]) <;> exact rfl))
                | ((with_reducible apply Wo_gsF); (exact rfl); ((conv => lhs; simp -implicitDefEqProofs [*]) <;> exact rfl))
                | ((with_reducible apply ex2); (conv => lhs; simp -implicitDefEqProofs [*]) <;> exact rfl)
                | (with_reducible apply W_ss) | (with_reducible apply W_srl) | (with_reducible apply W_rl)
                | ((with_reducible apply W_sc); (conv => lhs; simp -implicitDefEqProofs [*]) <;> exact rfl)
                | ((with_reducible apply W_c); (conv => lhs; simp -implicitDefEqProofs [*]) <;> exact rfl)
                | ((with_reducible apply W_srdl); kernel_rfl) | ((with_reducible apply W_rdl); kernel_rfl)
                | ((with_reducible apply Wd_u); (conv => lhs; simp -implicitDefEqProofs [*]) <;> exact rfl)
                | ((with_reducible apply Wd_n); (conv => lhs; simp -implicitDefEqProofs [*]) <;> exact rfl)
                | ((with_reducible apply Wd_nil); exact rfl)
                | ((with_reducible apply Wd_gsT); (exact rfl); ((conv => lhs; simp -implicitDefEqProofs [*]) <;> exact rfl))
                | ((with_reducible apply Wd_gsF); (exact rfl); ((conv => lhs; simp -implicitDefEqProofs [*]) <;> exact rfl))
                | ((with_reducible apply ex4); (conv => lhs; simp -implicitDefEqProofs [*]) <;> exact rfl)
                | (with_reducible apply W_sblock) | (with_reducible apply W_block) | (with_reducible apply W_sskip) | (with_reducible apply W_skip) | (with_reducible apply W_sret) | (with_reducible apply W_ret) | (with_reducible apply W_sexit) | (with_reducible apply W_exit)
                | (with_reducible apply thenW_n) | (with_reducible apply thenW_r) | (with_reducible apply thenW_e) | (with_reducible apply inB_n) | (with_reducible apply inB_r) | (with_reducible apply inB_e) | ((with_reducible apply inB_o); rotate_left; exact rfl)
                | ((with_reducible apply EndQ_ret); (conv => lhs; simp -implicitDefEqProofs [*]) <;> exact rfl) | ((with_reducible apply EndQ_normal); (conv => lhs; simp -implicitDefEqProofs [*]) <;> exact rfl)
                | (intro h h'; try simp [*, -h] at h'))
              exact ⟨_, by omega, k + 1, g2 + 1, rfl, hlt, by simp, by simp [*], by simp [*], by simp [*], by simp [*], by simp [*], by simp [*], by simp [*], by simp [*], by simp [*], by simp [*]⟩
            · skip
              have hu : usesL b.ins[k].op b.ins[k].a b.ins[k].b = [] := by rw [usesL, if_neg h1, if_neg h2]
              have hft : fwdTac (stN (idL n) b.ins k) b.ins[k] = ⟨b.ins[k].op, b.ins[k].d, b.ins[k].a, b.ins[k].b, b.ins[k].k, b.ins[k].base, b.ins[k].size, b.ins[k].n⟩ := by rw [fwdTac, if_neg h1, if_neg h2]
              have hst : stN (idL n) b.ins (k + 1) = (stN (idL n) b.ins k) := by rw [stN_succ hg]; unfold fwdStep; rw [if_neg hs]
              unfold Tac.sets at hs
              have hor := out_row (l0 := idL n) hg
              rw [hft] at hor
              simp only [Tac.row] at hor
              have HB := Lib.hid hb
              have HC := Lib.hid hcp
              have HR := Lib.hid hr
              clear hft hcp hb hr
              clear h1
              clear h2
              repeat' (first
                | ((with_reducible apply Wo_u); (conv => lhs; simp -implicitDefEqProofs [*]) <;> exact rfl)
                | ((with_reducible apply Wo_n); (conv => lhs; simp -implicitDefEqProofs [*]) <;> exact rfl)
                | (with_reducible apply Wo_nil)
                | ((with_reducible apply Wo_gt); (exact rfl); ((conv => lhs; simp -implicitDefEqProofs [*]) <;> exact rfl); (conv => lhs; simp -implicitDefEqProofs [*]) <;> exact rfl)
                | ((with_reducible apply Wo_gf); (exact rfl); ((conv => lhs; simp -implicitDefEqProofs [*]) <;> exact rfl); (exact rfl))
                | ((with_reducible apply Wo_gx); (exact rfl); ((conv => lhs; simp -implicitDefEqProofs [*]) <;> exact rfl))
                | ((with_reducible apply Wo_gsT); (exact rfl); ((conv => lhs; simp -implicitDefEqProofs [*]) <;> exact rfl))
                | ((with_reducible apply Wo_gsF); (exact rfl); ((conv => lhs; simp -implicitDefEqProofs [*]) <;> exact rfl))
                | ((with_reducible apply ex2); (conv => lhs; simp -implicitDefEqProofs [*]) <;> exact rfl)
                | (with_reducible apply W_ss) | (with_reducible apply W_srl) | (with_reducible apply W_rl)
                | ((with_reducible apply W_sc); (conv => lhs; simp -implicitDefEqProofs [*]) <;> exact rfl)
                | ((with_reducible apply W_c); (conv => lhs; simp -implicitDefEqProofs [*]) <;> exact rfl)
                | ((with_reducible apply W_srdl); kernel_rfl) | ((with_reducible apply W_rdl); kernel_rfl)
                | ((with_reducible apply Wd_u); (conv => lhs; simp -implicitDefEqProofs [*]) <;> exact rfl)
                | ((with_reducible apply Wd_n); (conv => lhs; simp -implicitDefEqProofs [*]) <;> exact rfl)
                | ((with_reducible apply Wd_nil); exact rfl)
                | ((with_reducible apply Wd_gsT); (exact rfl); ((conv => lhs; simp -implicitDefEqProofs [*]) <;> exact rfl))
                | ((with_reducible apply Wd_gsF); (exact rfl); ((conv => lhs; simp -implicitDefEqProofs [*]) <;> exact rfl))
                | ((with_reducible apply ex4); (conv => lhs; simp -implicitDefEqProofs [*]) <;> exact rfl)
                | (with_reducible apply W_sblock) | (with_reducible apply W_block) | (with_reducible apply W_sskip) | (with_reducible apply W_skip) | (with_reducible apply W_sret) | (with_reducible apply W_ret) | (with_reducible apply W_sexit) | (with_reducible apply W_exit)
                | (with_reducible apply thenW_n) | (with_reducible apply thenW_r) | (with_reducible apply thenW_e) | (with_reducible apply inB_n) | (with_reducible apply inB_r) | (with_reducible apply inB_e) | ((with_reducible apply inB_o); rotate_left; exact rfl)
                | ((with_reducible apply EndQ_ret); (conv => lhs; simp -implicitDefEqProofs [*]) <;> exact rfl) | ((with_reducible apply EndQ_normal); (conv => lhs; simp -implicitDefEqProofs [*]) <;> exact rfl)
                | (intro h h'; try simp [*, -h] at h'))
              exact ⟨_, by omega, k + 1, g2 + 1, rfl, hlt, by simp, by simp [*], by simp [*], by simp [*], by simp [*], by simp [*], by simp [*], by simp [*], by simp [*], by simp [*], by simp [*]⟩
    · obtain rfl : k = b.ins.length := by omega
      have hall : outK (idL n) b.ins b.ins.length = (outs (idL n) b.ins).map Tac.row := by
        have := preK_all ((outs (idL n) b.ins).map Tac.row)
        rw [List.length_map, outs_len] at this
        exact this
      have hfin : (fwdBlk n b).ins = outs (idL n) b.ins := by simp [fwdBlk]
      have hoo := outs_len (idL n) b.ins
      by_cases hen : b.en = 2
      · have hv := hb.v hen
        have hV := h33 hr hv.1 hv.2
        have hfv : (fwdBlk n b).v = atL (stN (idL n) b.ins b.ins.length) b.v := by simp [fwdBlk, hen]
        have HR := Lib.hid hr
        clear hr hb hcp
        repeat' (first
          | ((with_reducible apply Wo_u); (conv => lhs; simp -implicitDefEqProofs [*]) <;> exact rfl)
          | ((with_reducible apply Wo_n); (conv => lhs; simp -implicitDefEqProofs [*]) <;> exact rfl)
          | (with_reducible apply Wo_nil)
          | ((with_reducible apply Wo_gt); (exact rfl); ((conv => lhs; simp -implicitDefEqProofs [*]) <;> exact rfl); (conv => lhs; simp -implicitDefEqProofs [*]) <;> exact rfl)
          | ((with_reducible apply Wo_gf); (exact rfl); ((conv => lhs; simp -implicitDefEqProofs [*]) <;> exact rfl); (exact rfl))
          | ((with_reducible apply Wo_gx); (exact rfl); ((conv => lhs; simp -implicitDefEqProofs [*]) <;> exact rfl))
          | ((with_reducible apply Wo_gsT); (exact rfl); ((conv => lhs; simp -implicitDefEqProofs [*]) <;> exact rfl))
          | ((with_reducible apply Wo_gsF); (exact rfl); ((conv => lhs; simp -implicitDefEqProofs [*]) <;> exact rfl))
          | ((with_reducible apply ex2); (conv => lhs; simp -implicitDefEqProofs [*]) <;> exact rfl)
          | (with_reducible apply W_ss) | (with_reducible apply W_srl) | (with_reducible apply W_rl)
          | ((with_reducible apply W_sc); (conv => lhs; simp -implicitDefEqProofs [*]) <;> exact rfl)
          | ((with_reducible apply W_c); (conv => lhs; simp -implicitDefEqProofs [*]) <;> exact rfl)
          | ((with_reducible apply W_srdl); kernel_rfl) | ((with_reducible apply W_rdl); kernel_rfl)
          | ((with_reducible apply Wd_u); (conv => lhs; simp -implicitDefEqProofs [*]) <;> exact rfl)
          | ((with_reducible apply Wd_n); (conv => lhs; simp -implicitDefEqProofs [*]) <;> exact rfl)
          | ((with_reducible apply Wd_nil); exact rfl)
          | ((with_reducible apply Wd_gsT); (exact rfl); ((conv => lhs; simp -implicitDefEqProofs [*]) <;> exact rfl))
          | ((with_reducible apply Wd_gsF); (exact rfl); ((conv => lhs; simp -implicitDefEqProofs [*]) <;> exact rfl))
          | ((with_reducible apply ex4); (conv => lhs; simp -implicitDefEqProofs [*]) <;> exact rfl)
          | (with_reducible apply W_sblock) | (with_reducible apply W_block) | (with_reducible apply W_sskip) | (with_reducible apply W_skip) | (with_reducible apply W_sret) | (with_reducible apply W_ret) | (with_reducible apply W_sexit) | (with_reducible apply W_exit)
          | (with_reducible apply thenW_n) | (with_reducible apply thenW_r) | (with_reducible apply thenW_e) | (with_reducible apply inB_n) | (with_reducible apply inB_r) | (with_reducible apply inB_e) | ((with_reducible apply inB_o); rotate_left; exact rfl)
          | ((with_reducible apply EndQ_ret); (conv => lhs; simp -implicitDefEqProofs [*]) <;> exact rfl) | ((with_reducible apply EndQ_normal); (conv => lhs; simp -implicitDefEqProofs [*]) <;> exact rfl)
          | (intro h h'; try simp [*, -h] at h'))
        simp [*]
      · have hfv : (fwdBlk n b).v = b.v := by simp [fwdBlk, hen]
        have HR := Lib.hid hr
        clear hr hb hcp
        repeat' (first
          | ((with_reducible apply Wo_u); (conv => lhs; simp -implicitDefEqProofs [*]) <;> exact rfl)
          | ((with_reducible apply Wo_n); (conv => lhs; simp -implicitDefEqProofs [*]) <;> exact rfl)
          | (with_reducible apply Wo_nil)
          | ((with_reducible apply Wo_gt); (exact rfl); ((conv => lhs; simp -implicitDefEqProofs [*]) <;> exact rfl); (conv => lhs; simp -implicitDefEqProofs [*]) <;> exact rfl)
          | ((with_reducible apply Wo_gf); (exact rfl); ((conv => lhs; simp -implicitDefEqProofs [*]) <;> exact rfl); (exact rfl))
          | ((with_reducible apply Wo_gx); (exact rfl); ((conv => lhs; simp -implicitDefEqProofs [*]) <;> exact rfl))
          | ((with_reducible apply Wo_gsT); (exact rfl); ((conv => lhs; simp -implicitDefEqProofs [*]) <;> exact rfl))
          | ((with_reducible apply Wo_gsF); (exact rfl); ((conv => lhs; simp -implicitDefEqProofs [*]) <;> exact rfl))
          | ((with_reducible apply ex2); (conv => lhs; simp -implicitDefEqProofs [*]) <;> exact rfl)
          | (with_reducible apply W_ss) | (with_reducible apply W_srl) | (with_reducible apply W_rl)
          | ((with_reducible apply W_sc); (conv => lhs; simp -implicitDefEqProofs [*]) <;> exact rfl)
          | ((with_reducible apply W_c); (conv => lhs; simp -implicitDefEqProofs [*]) <;> exact rfl)
          | ((with_reducible apply W_srdl); kernel_rfl) | ((with_reducible apply W_rdl); kernel_rfl)
          | ((with_reducible apply Wd_u); (conv => lhs; simp -implicitDefEqProofs [*]) <;> exact rfl)
          | ((with_reducible apply Wd_n); (conv => lhs; simp -implicitDefEqProofs [*]) <;> exact rfl)
          | ((with_reducible apply Wd_nil); exact rfl)
          | ((with_reducible apply Wd_gsT); (exact rfl); ((conv => lhs; simp -implicitDefEqProofs [*]) <;> exact rfl))
          | ((with_reducible apply Wd_gsF); (exact rfl); ((conv => lhs; simp -implicitDefEqProofs [*]) <;> exact rfl))
          | ((with_reducible apply ex4); (conv => lhs; simp -implicitDefEqProofs [*]) <;> exact rfl)
          | (with_reducible apply W_sblock) | (with_reducible apply W_block) | (with_reducible apply W_sskip) | (with_reducible apply W_skip) | (with_reducible apply W_sret) | (with_reducible apply W_ret) | (with_reducible apply W_sexit) | (with_reducible apply W_exit)
          | (with_reducible apply thenW_n) | (with_reducible apply thenW_r) | (with_reducible apply thenW_e) | (with_reducible apply inB_n) | (with_reducible apply inB_r) | (with_reducible apply inB_e) | ((with_reducible apply inB_o); rotate_left; exact rfl)
          | ((with_reducible apply EndQ_ret); (conv => lhs; simp -implicitDefEqProofs [*]) <;> exact rfl) | ((with_reducible apply EndQ_normal); (conv => lhs; simp -implicitDefEqProofs [*]) <;> exact rfl)
          | (intro h h'; try simp [*, -h] at h'))
        simp [*]
end Go.Proofs.Ytmfhdhiaokejdaa

namespace Go.Proofs.Ytmfhdhiaokejdaa
open Go Go.Ab
set_option linter.unusedSimpArgs false
set_option linter.unusedVariables false
set_option maxHeartbeats 8000000 in
theorem d14 (n : Nat) (bs : List Blk) (hn : n ≤ 4000) (hbs : bs.length ≤ 100000) (hins : ∀ b ∈ bs, b.ins.length ≤ 100000) (hok : ∀ b ∈ bs, b.okR n) (hcp : ∀ b ∈ bs, ∀ t ∈ b.ins, t.op = 2 → 0 ≤ t.sets) : (lim Try.prog E31 X31).dat 14 [.agg [iv n, .sl false 5 (bs.map Blk.row)]] = some [.agg [iv n, .vec 5 (bs.map (gB n))], .agg [.vec 1 (bs.map (gC n))]] := by
  refine fnW Try.func14 rfl rfl bodyOk_14 rfl rtys_14 rfl ?_
  have H1 := Lib.hid hins
  have H2 := Lib.hid hok
  have H3 := Lib.hid hcp
  clear hins hok hcp
  repeat' (first
    | ((with_reducible apply Wo_u); (conv => lhs; simp -implicitDefEqProofs [*]) <;> exact rfl)
    | ((with_reducible apply Wo_n); (conv => lhs; simp -implicitDefEqProofs [*]) <;> exact rfl)
    | (with_reducible apply Wo_nil)
    | ((with_reducible apply Wo_gt); (exact rfl); ((conv => lhs; simp -implicitDefEqProofs [*]) <;> exact rfl); (conv => lhs; simp -implicitDefEqProofs [*]) <;> exact rfl)
    | ((with_reducible apply Wo_gf); (exact rfl); ((conv => lhs; simp -implicitDefEqProofs [*]) <;> exact rfl); (exact rfl))
    | ((with_reducible apply Wo_gx); (exact rfl); ((conv => lhs; simp -implicitDefEqProofs [*]) <;> exact rfl))
    | ((with_reducible apply Wo_gsT); (exact rfl); ((conv => lhs; simp -implicitDefEqProofs [*]) <;> exact rfl))
    | ((with_reducible apply Wo_gsF); (exact rfl); ((conv => lhs; simp -implicitDefEqProofs [*]) <;> exact rfl))
    | ((with_reducible apply ex2); (conv => lhs; simp -implicitDefEqProofs [*]) <;> exact rfl)
    | (with_reducible apply W_ss) | (with_reducible apply W_srl) | (with_reducible apply W_rl)
    | ((with_reducible apply W_sc); (conv => lhs; simp -implicitDefEqProofs [*]) <;> exact rfl)
    | ((with_reducible apply W_c); (conv => lhs; simp -implicitDefEqProofs [*]) <;> exact rfl)
    | ((with_reducible apply W_srdl); kernel_rfl) | ((with_reducible apply W_rdl); kernel_rfl)
    | ((with_reducible apply Wd_u); (conv => lhs; simp -implicitDefEqProofs [*]) <;> exact rfl)
    | ((with_reducible apply Wd_n); (conv => lhs; simp -implicitDefEqProofs [*]) <;> exact rfl)
    | ((with_reducible apply Wd_nil); exact rfl)
    | ((with_reducible apply Wd_gsT); (exact rfl); ((conv => lhs; simp -implicitDefEqProofs [*]) <;> exact rfl))
    | ((with_reducible apply Wd_gsF); (exact rfl); ((conv => lhs; simp -implicitDefEqProofs [*]) <;> exact rfl))
    | ((with_reducible apply ex4); (conv => lhs; simp -implicitDefEqProofs [*]) <;> exact rfl)
    | (with_reducible apply W_sblock) | (with_reducible apply W_block) | (with_reducible apply W_sskip) | (with_reducible apply W_skip) | (with_reducible apply W_sret) | (with_reducible apply W_ret) | (with_reducible apply W_sexit) | (with_reducible apply W_exit)
    | (with_reducible apply thenW_n) | (with_reducible apply thenW_r) | (with_reducible apply thenW_e) | (with_reducible apply inB_n) | (with_reducible apply inB_r) | (with_reducible apply inB_e) | ((with_reducible apply inB_o); rotate_left; exact rfl)
    | ((with_reducible apply EndQ_ret); (conv => lhs; simp -implicitDefEqProofs [*]) <;> exact rfl) | ((with_reducible apply EndQ_normal); (conv => lhs; simp -implicitDefEqProofs [*]) <;> exact rfl)
    | (intro h h'; try simp [*, -h] at h'))
  refine W_loopS (n := bs.length) (fun s0 m s => ∃ k g2 g3 : Nat, m = bs.length - k ∧ k ≤ bs.length ∧ s.fr 6 = iv k ∧ s.fr 1 = s0.fr 1 ∧ s.fr 2 = s0.fr 2 ∧ s.fr 3 = s0.fr 3 ∧ s.fr 4 = s0.fr 4 ∧ s.fr 5 = s0.fr 5 ∧ s.hp ⟨0, 1, 0⟩ = s0.hp ⟨0, 1, 0⟩ ∧ s.hp ⟨0, 2, 0⟩ = s0.hp ⟨0, 2, 0⟩ ∧ s.hp ⟨0, 3, 0⟩ = s0.hp ⟨0, 3, 0⟩ ∧ s.hp ⟨0, 2, 2⟩ = s0.hp ⟨0, 2, 2⟩ ∧ s.hp ⟨0, 3, 1⟩ = s0.hp ⟨0, 3, 1⟩ ∧ s.hp ⟨0, 4, 0⟩ = .box (s0.hp ⟨0, 4, 0⟩).gen [iv n, .own ⟨0, 4, 2⟩ g2 k] false ∧ s.hp ⟨0, 4, 2⟩ = .arr g2 5 37 (preK (bs.map (gB n)) k) false ∧ s.hp ⟨0, 5, 0⟩ = .box (s0.hp ⟨0, 5, 0⟩).gen [.own ⟨0, 5, 1⟩ g3 k] false ∧ s.hp ⟨0, 5, 1⟩ = .arr g3 1 55 (preK (bs.map (gC n)) k) false) ⟨0, 2, 1, by simp, by simp, by simp, by simp, by simp, by simp, by simp, by simp, by simp, by simp, by simp, by simp, by simp, by simp, by simp [preK_zero], by simp, by simp [preK_zero]⟩ ?_
  rintro m ⟨fr, hp⟩ ⟨k, g2, g3, rfl, hk, hs6, hs1, hs2, hs3, hs4, hs5, hh0_1_0, hh0_2_0, hh0_3_0, hh0_2_2, hh0_3_1, hh4, hh42, hh5, hh51⟩
  simp at hs6 hs1 hs2 hs3 hs4 hs5 hh0_1_0 hh0_2_0 hh0_3_0 hh0_2_2 hh0_3_1 hh4 hh42 hh5 hh51
  have hl1 := preK_len (l := bs.map (gB n)) (k := k) (by simpa using hk)
  have hl2 := preK_len (l := bs.map (gC n)) (k := k) (by simpa using hk)
  by_cases hlt : k < bs.length
  · have hg := List.getElem?_eq_getElem hlt
    have hw := wrapN (k := k) (by omega)
    have hf := d23 bs[k] n hn (H1.out _ (List.getElem_mem hlt)) (H2.out _ (List.getElem_mem hlt)) (H3.out _ (List.getElem_mem hlt))
    have hp1 : preK (bs.map (gB n)) k ++ [[.sl false 8 ((fwdBlk n bs[k]).ins.map Tac.row), iv bs[k].en, iv (fwdBlk n bs[k]).v, iv bs[k].to, iv bs[k].el]] = preK (bs.map (gB n)) (k + 1) := preK_succ (r := gB n bs[k]) (by rw [List.getElem?_map, hg]; rfl)
    have hp2 : preK (bs.map (gC n)) k ++ [[.sl false 1 (List.replicate n [bv true])]] = preK (bs.map (gC n)) (k + 1) := preK_succ (by rw [List.getElem?_map, hg]; simp)
    have htk : ((fwdBlk n bs[k]).ins.map Tac.row).take (fwdBlk n bs[k]).ins.length = (fwdBlk n bs[k]).ins.map Tac.row := List.take_of_length_le (by simp)
    have hby : (k + 1) * 56 ≤ 140737488355328 := by omega
    have hby1 : (k + 1) * 24 ≤ 140737488355328 := by omega
    have hby2 : k ≤ 9223372036854775806 := by omega
    repeat' (first
      | ((with_reducible apply Wo_u); (conv => lhs; simp -implicitDefEqProofs [*]) <;> exact rfl)
      | ((with_reducible apply Wo_n); (conv => lhs; simp -implicitDefEqProofs [*]) <;> exact rfl)
      | (with_reducible apply Wo_nil)
      | ((with_reducible apply Wo_gt); (exact rfl); ((conv => lhs; simp -implicitDefEqProofs [*]) <;> exact rfl); (conv => lhs; simp -implicitDefEqProofs [*]) <;> exact rfl)
      | ((with_reducible apply Wo_gf); (exact rfl); ((conv => lhs; simp -implicitDefEqProofs [*]) <;> exact rfl); (exact rfl))
      | ((with_reducible apply Wo_gx); (exact rfl); ((conv => lhs; simp -implicitDefEqProofs [*]) <;> exact rfl))
      | ((with_reducible apply Wo_gsT); (exact rfl); ((conv => lhs; simp -implicitDefEqProofs [*]) <;> exact rfl))
      | ((with_reducible apply Wo_gsF); (exact rfl); ((conv => lhs; simp -implicitDefEqProofs [*]) <;> exact rfl))
      | ((with_reducible apply ex2); (conv => lhs; simp -implicitDefEqProofs [*]) <;> exact rfl)
      | (with_reducible apply W_ss) | (with_reducible apply W_srl) | (with_reducible apply W_rl)
      | ((with_reducible apply W_sc); (conv => lhs; simp -implicitDefEqProofs [*]) <;> exact rfl)
      | ((with_reducible apply W_c); (conv => lhs; simp -implicitDefEqProofs [*]) <;> exact rfl)
      | ((with_reducible apply W_srdl); kernel_rfl) | ((with_reducible apply W_rdl); kernel_rfl)
      | ((with_reducible apply Wd_u); (conv => lhs; simp -implicitDefEqProofs [*]) <;> exact rfl)
      | ((with_reducible apply Wd_n); (conv => lhs; simp -implicitDefEqProofs [*]) <;> exact rfl)
      | ((with_reducible apply Wd_nil); exact rfl)
      | ((with_reducible apply Wd_gsT); (exact rfl); ((conv => lhs; simp -implicitDefEqProofs [*]) <;> exact rfl))
      | ((with_reducible apply Wd_gsF); (exact rfl); ((conv => lhs; simp -implicitDefEqProofs [*]) <;> exact rfl))
      | ((with_reducible apply ex4); (conv => lhs; simp -implicitDefEqProofs [*]) <;> exact rfl)
      | (with_reducible apply W_sblock) | (with_reducible apply W_block) | (with_reducible apply W_sskip) | (with_reducible apply W_skip) | (with_reducible apply W_sret) | (with_reducible apply W_ret) | (with_reducible apply W_sexit) | (with_reducible apply W_exit)
      | (with_reducible apply thenW_n) | (with_reducible apply thenW_r) | (with_reducible apply thenW_e) | (with_reducible apply inB_n) | (with_reducible apply inB_r) | (with_reducible apply inB_e) | ((with_reducible apply inB_o); rotate_left; exact rfl)
      | ((with_reducible apply EndQ_ret); (conv => lhs; simp -implicitDefEqProofs [*]) <;> exact rfl) | ((with_reducible apply EndQ_normal); (conv => lhs; simp -implicitDefEqProofs [*]) <;> exact rfl)
      | (intro h h'; try simp [*, -h] at h'))
    refine W_loopS (n := n) (fun s0 m s => ∃ j g : Nat, m = n - j ∧ j ≤ n ∧ s.fr 8 = iv j ∧ s.fr 7 = .own ⟨0, 7, 0⟩ g j ∧ s.hp ⟨0, 7, 0⟩ = .arr g 1 4 (List.replicate j [bv true]) false ∧ s.fr 1 = s0.fr 1 ∧ s.fr 2 = s0.fr 2 ∧ s.fr 3 = s0.fr 3 ∧ s.fr 4 = s0.fr 4 ∧ s.fr 5 = s0.fr 5 ∧ s.fr 6 = s0.fr 6 ∧ s.hp ⟨0, 1, 0⟩ = s0.hp ⟨0, 1, 0⟩ ∧ s.hp ⟨0, 2, 0⟩ = s0.hp ⟨0, 2, 0⟩ ∧ s.hp ⟨0, 3, 0⟩ = s0.hp ⟨0, 3, 0⟩ ∧ s.hp ⟨0, 2, 2⟩ = s0.hp ⟨0, 2, 2⟩ ∧ s.hp ⟨0, 3, 1⟩ = s0.hp ⟨0, 3, 1⟩ ∧ s.hp ⟨0, 4, 0⟩ = s0.hp ⟨0, 4, 0⟩ ∧ s.hp ⟨0, 4, 2⟩ = s0.hp ⟨0, 4, 2⟩ ∧ s.hp ⟨0, 5, 0⟩ = s0.hp ⟨0, 5, 0⟩ ∧ s.hp ⟨0, 5, 1⟩ = s0.hp ⟨0, 5, 1⟩) ⟨0, (hp ⟨0, 7, 0⟩).gen + 1, by simp, by simp, by simp, by simp, by simp, by simp, by simp, by simp, by simp, by simp, by simp, by simp, by simp, by simp, by simp, by simp, by simp, by simp, by simp, by simp⟩ ?_
    rintro m ⟨fr, hp⟩ ⟨j, g, rfl, hj, hs8, hs7, hh7, hs1, hs2, hs3, hs4, hs5, hs6, hh0_1_0, hh0_2_0, hh0_3_0, hh0_2_2, hh0_3_1, hh0_4_0, hh0_4_2, hh0_5_0, hh0_5_1⟩
    simp at hs8 hs7 hh7 hs1 hs2 hs3 hs4 hs5 hs6 hh0_1_0 hh0_2_0 hh0_3_0 hh0_2_2 hh0_3_1 hh0_4_0 hh0_4_2 hh0_5_0 hh0_5_1
    by_cases hlj : j < n
    · have hwj := wrapN (k := j) (by omega)
      have hrp : List.replicate j [bv true] ++ [[bv true]] = List.replicate (j + 1) [bv true] := by rw [List.replicate_succ']
      have hby3 : j + 1 ≤ 140737488355328 := by omega
      have hby4 : j ≤ 140737488355327 := by omega
      have hby5 : j ≤ 9223372036854775806 := by omega
      repeat' (first
        | ((with_reducible apply Wo_u); (conv => lhs; simp -implicitDefEqProofs [*]) <;> exact rfl)
        | ((with_reducible apply Wo_n); (conv => lhs; simp -implicitDefEqProofs [*]) <;> exact rfl)
        | (with_reducible apply Wo_nil)
        | ((with_reducible apply Wo_gt); (exact rfl); ((conv => lhs; simp -implicitDefEqProofs [*]) <;> exact rfl); (conv => lhs; simp -implicitDefEqProofs [*]) <;> exact rfl)
        | ((with_reducible apply Wo_gf); (exact rfl); ((conv => lhs; simp -implicitDefEqProofs [*]) <;> exact rfl); (exact rfl))
        | ((with_reducible apply Wo_gx); (exact rfl); ((conv => lhs; simp -implicitDefEqProofs [*]) <;> exact rfl))
        | ((with_reducible apply Wo_gsT); (exact rfl); ((conv => lhs; simp -implicitDefEqProofs [*]) <;> exact rfl))
        | ((with_reducible apply Wo_gsF); (exact rfl); ((conv => lhs; simp -implicitDefEqProofs [*]) <;> exact rfl))
        | ((with_reducible apply ex2); (conv => lhs; simp -implicitDefEqProofs [*]) <;> exact rfl)
        | (with_reducible apply W_ss) | (with_reducible apply W_srl) | (with_reducible apply W_rl)
        | ((with_reducible apply W_sc); (conv => lhs; simp -implicitDefEqProofs [*]) <;> exact rfl)
        | ((with_reducible apply W_c); (conv => lhs; simp -implicitDefEqProofs [*]) <;> exact rfl)
        | ((with_reducible apply W_srdl); kernel_rfl) | ((with_reducible apply W_rdl); kernel_rfl)
        | ((with_reducible apply Wd_u); (conv => lhs; simp -implicitDefEqProofs [*]) <;> exact rfl)
        | ((with_reducible apply Wd_n); (conv => lhs; simp -implicitDefEqProofs [*]) <;> exact rfl)
        | ((with_reducible apply Wd_nil); exact rfl)
        | ((with_reducible apply Wd_gsT); (exact rfl); ((conv => lhs; simp -implicitDefEqProofs [*]) <;> exact rfl))
        | ((with_reducible apply Wd_gsF); (exact rfl); ((conv => lhs; simp -implicitDefEqProofs [*]) <;> exact rfl))
        | ((with_reducible apply ex4); (conv => lhs; simp -implicitDefEqProofs [*]) <;> exact rfl)
        | (with_reducible apply W_sblock) | (with_reducible apply W_block) | (with_reducible apply W_sskip) | (with_reducible apply W_skip) | (with_reducible apply W_sret) | (with_reducible apply W_ret) | (with_reducible apply W_sexit) | (with_reducible apply W_exit)
        | (with_reducible apply thenW_n) | (with_reducible apply thenW_r) | (with_reducible apply thenW_e) | (with_reducible apply inB_n) | (with_reducible apply inB_r) | (with_reducible apply inB_e) | ((with_reducible apply inB_o); rotate_left; exact rfl)
        | ((with_reducible apply EndQ_ret); (conv => lhs; simp -implicitDefEqProofs [*]) <;> exact rfl) | ((with_reducible apply EndQ_normal); (conv => lhs; simp -implicitDefEqProofs [*]) <;> exact rfl)
        | (intro h h'; try simp [*, -h] at h'))
      exact ⟨_, by omega, j + 1, g + 1, rfl, hlj, by simp, by simp [*], by simp [*], by simp [*], by simp [*], by simp [*], by simp [*], by simp [*], by simp [*], by simp [*], by simp [*], by simp [*], by simp [*], by simp [*], by simp [*], by simp [*], by simp [*], by simp [*]⟩
    · obtain rfl : j = n := by omega
      repeat' (first
        | ((with_reducible apply Wo_u); (conv => lhs; simp -implicitDefEqProofs [*]) <;> exact rfl)
        | ((with_reducible apply Wo_n); (conv => lhs; simp -implicitDefEqProofs [*]) <;> exact rfl)
        | (with_reducible apply Wo_nil)
        | ((with_reducible apply Wo_gt); (exact rfl); ((conv => lhs; simp -implicitDefEqProofs [*]) <;> exact rfl); (conv => lhs; simp -implicitDefEqProofs [*]) <;> exact rfl)
        | ((with_reducible apply Wo_gf); (exact rfl); ((conv => lhs; simp -implicitDefEqProofs [*]) <;> exact rfl); (exact rfl))
        | ((with_reducible apply Wo_gx); (exact rfl); ((conv => lhs; simp -implicitDefEqProofs [*]) <;> exact rfl))
        | ((with_reducible apply Wo_gsT); (exact rfl); ((conv => lhs; simp -implicitDefEqProofs [*]) <;> exact rfl))
        | ((with_reducible apply Wo_gsF); (exact rfl); ((conv => lhs; simp -implicitDefEqProofs [*]) <;> exact rfl))
        | ((with_reducible apply ex2); (conv => lhs; simp -implicitDefEqProofs [*]) <;> exact rfl)
        | (with_reducible apply W_ss) | (with_reducible apply W_srl) | (with_reducible apply W_rl)
        | ((with_reducible apply W_sc); (conv => lhs; simp -implicitDefEqProofs [*]) <;> exact rfl)
        | ((with_reducible apply W_c); (conv => lhs; simp -implicitDefEqProofs [*]) <;> exact rfl)
        | ((with_reducible apply W_srdl); kernel_rfl) | ((with_reducible apply W_rdl); kernel_rfl)
        | ((with_reducible apply Wd_u); (conv => lhs; simp -implicitDefEqProofs [*]) <;> exact rfl)
        | ((with_reducible apply Wd_n); (conv => lhs; simp -implicitDefEqProofs [*]) <;> exact rfl)
        | ((with_reducible apply Wd_nil); exact rfl)
        | ((with_reducible apply Wd_gsT); (exact rfl); ((conv => lhs; simp -implicitDefEqProofs [*]) <;> exact rfl))
        | ((with_reducible apply Wd_gsF); (exact rfl); ((conv => lhs; simp -implicitDefEqProofs [*]) <;> exact rfl))
        | ((with_reducible apply ex4); (conv => lhs; simp -implicitDefEqProofs [*]) <;> exact rfl)
        | (with_reducible apply W_sblock) | (with_reducible apply W_block) | (with_reducible apply W_sskip) | (with_reducible apply W_skip) | (with_reducible apply W_sret) | (with_reducible apply W_ret) | (with_reducible apply W_sexit) | (with_reducible apply W_exit)
        | (with_reducible apply thenW_n) | (with_reducible apply thenW_r) | (with_reducible apply thenW_e) | (with_reducible apply inB_n) | (with_reducible apply inB_r) | (with_reducible apply inB_e) | ((with_reducible apply inB_o); rotate_left; exact rfl)
        | ((with_reducible apply EndQ_ret); (conv => lhs; simp -implicitDefEqProofs [*]) <;> exact rfl) | ((with_reducible apply EndQ_normal); (conv => lhs; simp -implicitDefEqProofs [*]) <;> exact rfl)
        | (intro h h'; try simp [*, -h] at h'))
      refine ⟨_, by omega, k + 1, g2 + 1, g3 + 1, rfl, hlt, by simp, by simp [*], by simp [*], by simp [*], by simp [*], by simp [*], by simp [*], by simp [*], by simp [*], by simp [*], by simp [*], by simp [*], by simp [*], by simp [*], by simp [*]⟩
  · obtain rfl : k = bs.length := by omega
    have ha1 : preK (bs.map (gB n)) bs.length = bs.map (gB n) := by have := preK_all (bs.map (gB n)); rwa [List.length_map] at this
    have ha2 : preK (bs.map (gC n)) bs.length = bs.map (gC n) := by have := preK_all (bs.map (gC n)); rwa [List.length_map] at this
    repeat' (first
      | ((with_reducible apply Wo_u); (conv => lhs; simp -implicitDefEqProofs [*]) <;> exact rfl)
      | ((with_reducible apply Wo_n); (conv => lhs; simp -implicitDefEqProofs [*]) <;> exact rfl)
      | (with_reducible apply Wo_nil)
      | ((with_reducible apply Wo_gt); (exact rfl); ((conv => lhs; simp -implicitDefEqProofs [*]) <;> exact rfl); (conv => lhs; simp -implicitDefEqProofs [*]) <;> exact rfl)
      | ((with_reducible apply Wo_gf); (exact rfl); ((conv => lhs; simp -implicitDefEqProofs [*]) <;> exact rfl); (exact rfl))
      | ((with_reducible apply Wo_gx); (exact rfl); ((conv => lhs; simp -implicitDefEqProofs [*]) <;> exact rfl))
      | ((with_reducible apply Wo_gsT); (exact rfl); ((conv => lhs; simp -implicitDefEqProofs [*]) <;> exact rfl))
      | ((with_reducible apply Wo_gsF); (exact rfl); ((conv => lhs; simp -implicitDefEqProofs [*]) <;> exact rfl))
      | ((with_reducible apply ex2); (conv => lhs; simp -implicitDefEqProofs [*]) <;> exact rfl)
      | (with_reducible apply W_ss) | (with_reducible apply W_srl) | (with_reducible apply W_rl)
      | ((with_reducible apply W_sc); (conv => lhs; simp -implicitDefEqProofs [*]) <;> exact rfl)
      | ((with_reducible apply W_c); (conv => lhs; simp -implicitDefEqProofs [*]) <;> exact rfl)
      | ((with_reducible apply W_srdl); kernel_rfl) | ((with_reducible apply W_rdl); kernel_rfl)
      | ((with_reducible apply Wd_u); (conv => lhs; simp -implicitDefEqProofs [*]) <;> exact rfl)
      | ((with_reducible apply Wd_n); (conv => lhs; simp -implicitDefEqProofs [*]) <;> exact rfl)
      | ((with_reducible apply Wd_nil); exact rfl)
      | ((with_reducible apply Wd_gsT); (exact rfl); ((conv => lhs; simp -implicitDefEqProofs [*]) <;> exact rfl))
      | ((with_reducible apply Wd_gsF); (exact rfl); ((conv => lhs; simp -implicitDefEqProofs [*]) <;> exact rfl))
      | ((with_reducible apply ex4); (conv => lhs; simp -implicitDefEqProofs [*]) <;> exact rfl)
      | (with_reducible apply W_sblock) | (with_reducible apply W_block) | (with_reducible apply W_sskip) | (with_reducible apply W_skip) | (with_reducible apply W_sret) | (with_reducible apply W_ret) | (with_reducible apply W_sexit) | (with_reducible apply W_exit)
      | (with_reducible apply thenW_n) | (with_reducible apply thenW_r) | (with_reducible apply thenW_e) | (with_reducible apply inB_n) | (with_reducible apply inB_r) | (with_reducible apply inB_e) | ((with_reducible apply inB_o); rotate_left; exact rfl)
      | ((with_reducible apply EndQ_ret); (conv => lhs; simp -implicitDefEqProofs [*]) <;> exact rfl) | ((with_reducible apply EndQ_normal); (conv => lhs; simp -implicitDefEqProofs [*]) <;> exact rfl)
      | (intro h h'; try simp [*, -h] at h'))
    simp [*]
end Go.Proofs.Ytmfhdhiaokejdaa

namespace Go.Proofs.Ytmfhdhiaokejdaa
open Go Go.Ab
set_option linter.unusedSimpArgs false
set_option linter.unusedVariables false
theorem fits_fwd {L : List Int} {n : Nat} (hr : Rng L n) {u : Tac} (hu : u.okR n) {number words : Int} (h : u.fitsB number n words = true) : (fwdTac L u).fitsB number n words = true := by
  unfold Tac.fitsB fitsB at h ⊢
  simp only [Bool.and_eq_true] at h ⊢
  obtain ⟨⟨⟨⟨⟨⟨⟨⟨p1, p2⟩, p3⟩, p4⟩, p5⟩, p6⟩, p7⟩, p8⟩, p9⟩ := h
  unfold bare at p9
  simp only [Bool.and_eq_true] at p9
  obtain ⟨⟨⟨⟨⟨⟨q1, q2⟩, q3⟩, q4⟩, q5⟩, q6⟩, q7⟩ := p9
  by_cases h1 : u.op = 2 ∨ u.op = 5 ∨ u.op = 6 ∨ u.op = 9
  · have e : fwdTac L u = { u with a := atL L u.a } := by unfold fwdTac; rw [if_pos h1]
    have ha := uses_a hu (by omega)
    have hat := atL_get hr ha.1 ha.2
    rw [e]
    unfold bare
    simp only [Bool.and_eq_true]
    refine ⟨⟨⟨⟨⟨⟨⟨⟨p1, p2⟩, p3⟩, ?_⟩, p5⟩, p6⟩, p7⟩, p8⟩, ⟨⟨⟨⟨⟨⟨q1, ?_⟩, q3⟩, q4⟩, q5⟩, q6⟩, q7⟩⟩
    · unfold okUse usesL; rw [if_pos h1]; simp [withinB]; omega
    · rcases h1 with h | h | h | h <;> simp [h]
  · by_cases h2 : u.op = 3 ∨ u.op = 7
    · have e : fwdTac L u = { u with a := atL L u.a, b := atL L u.b } := by unfold fwdTac; rw [if_neg h1, if_pos h2]
      have ha := uses_a hu (by omega)
      have hb := uses_b hu h2
      have hat := atL_get hr ha.1 ha.2
      have hbt := atL_get hr hb.1 hb.2
      rw [e]
      unfold bare
      simp only [Bool.and_eq_true]
      refine ⟨⟨⟨⟨⟨⟨⟨⟨p1, p2⟩, p3⟩, ?_⟩, p5⟩, p6⟩, p7⟩, p8⟩, ⟨⟨⟨⟨⟨⟨q1, ?_⟩, ?_⟩, q4⟩, q5⟩, q6⟩, q7⟩⟩
      · unfold okUse usesL; rw [if_neg h1, if_pos h2]; simp [withinB]; omega
      · rcases h2 with h | h <;> simp [h]
      · rcases h2 with h | h <;> simp [h]
    · have e : fwdTac L u = u := by unfold fwdTac; rw [if_neg h1, if_neg h2]
      rw [e]
      unfold bare
      simp only [Bool.and_eq_true]
      exact ⟨⟨⟨⟨⟨⟨⟨⟨p1, p2⟩, p3⟩, p4⟩, p5⟩, p6⟩, p7⟩, p8⟩, ⟨⟨⟨⟨⟨⟨q1, q2⟩, q3⟩, q4⟩, q5⟩, q6⟩, q7⟩⟩
theorem one_fwd {n : Nat} {bs : List Blk} {number words : Int} (h : oneB ⟨n, bs⟩ number words = true) : oneB ⟨n, bs.map (fwdBlk n)⟩ number words = true := by
  obtain ⟨_, _, _, hok⟩ := one_okR h
  simp only [Int.toNat_natCast] at hok
  unfold oneB at h ⊢
  simp only [Bool.and_eq_true, decide_eq_true_eq, List.all_eq_true, List.length_map] at h ⊢
  obtain ⟨⟨⟨h1, h2⟩, h3⟩, h4⟩ := h
  refine ⟨⟨⟨h1, h2⟩, h3⟩, fun b hb => ?_⟩
  simp only [List.mem_map] at hb
  obtain ⟨a, ha, rfl⟩ := hb
  have hk := hok a ha
  have h5 := h4 a ha
  unfold okBlk at h5 ⊢
  simp only [Bool.and_eq_true, List.all_eq_true] at h5 ⊢
  refine ⟨?_, fun t ht => ?_⟩
  · by_cases hen : a.en = 2
    · have hv := hk.v hen
      have hat := atL_get (stN_rng (idL_rng n) hk.ins a.ins.length (Nat.le_refl _)) hv.1 hv.2
      have e : (fwdBlk n a).v = atL (stN (idL n) a.ins a.ins.length) a.v := by simp [fwdBlk, hen]
      have e1 := h5.1
      rw [e, show (fwdBlk n a).en = a.en from rfl, show (fwdBlk n a).to = a.to from rfl, show (fwdBlk n a).el = a.el from rfl]
      unfold endsB at e1 ⊢
      rw [if_neg (by omega), if_pos hen] at e1 ⊢
      simp only [Bool.and_eq_true] at e1 ⊢
      refine ⟨e1.1, ?_⟩
      unfold withinB
      simp only [Bool.and_eq_true, decide_eq_true_eq]
      exact hat.2
    · have e : (fwdBlk n a).v = a.v := by simp [fwdBlk, hen]
      rw [e]; exact h5.1
  · simp only [fwdBlk, Int.toNat_natCast] at ht
    obtain ⟨k, hkt⟩ := List.getElem?_of_mem ht
    obtain ⟨u, hu, rfl⟩ := outs_inv hkt
    have hm := List.mem_of_getElem? hu
    have hl := (List.getElem?_eq_some_iff.1 hu).1
    exact fits_fwd (stN_rng (idL_rng n) hk.ins k (by omega)) (hk.ins u hm) (h5.2 u hm)
theorem one_copy {f : Fn} {number words : Int} (h : oneB f number words = true) : ∀ b ∈ f.blocks, ∀ t ∈ b.ins, t.op = 2 → 0 ≤ t.sets := by
  intro b hb t ht hop
  unfold oneB at h
  simp only [Bool.and_eq_true, List.all_eq_true] at h
  have h5 := h.2 b hb
  unfold okBlk at h5
  simp only [Bool.and_eq_true, List.all_eq_true] at h5
  have h6 := h5.2 t ht
  unfold Tac.fitsB fitsB at h6
  simp only [Bool.and_eq_true] at h6
  have h7 := h6.1.1.1.1.1.1.2
  unfold Tac.sets setsZ
  rw [hop] at h7 ⊢
  simp [setsB, withinB] at h7 ⊢
  omega
set_option maxHeartbeats 4000000 in
theorem d3 (f : Fn) (ha : f.fits) : (lim Try.prog E31 X31).dat 3 [.agg f.row] = some [bv true] := by
  refine fnW Try.func3 rfl rfl bodyOk_3 rfl rtys_3 rfl ?_
  by_cases hs : smallB f = true
  · have h11 := d11 f ha
    obtain ⟨n, bs, rfl, hn, hbs, hins, hok, hone⟩ := small_good hs
    rw [hs] at h11
    have hfs := fwd_small hn hbs hins
    have h13 := d13 n bs (by omega) (by omega) (fun b hb => by have := hins b hb; omega) hok
    have htk : (bs.map (gB n)).take bs.length = bs.map (gB n) := List.take_of_length_le (by simp)
    have htc : (bs.map (gC n)).take bs.length = bs.map (gC n) := List.take_of_length_le (by simp)
    have hcp := one_copy hone
    have h14 := d14 n bs (by omega) (by omega) (fun b hb => by have := hins b hb; omega) hok hcp
    have h15 := d15 ⟨n, bs.map (fwdBlk n)⟩ 64 2000 hfs (by omega) (by omega)
    rw [one_fwd hone] at h15
    simp only [row_map] at h15
    have h16 := d16 ⟨n, bs.map (fwdBlk n)⟩ ⟨n, bs.map (fwdBlk n)⟩ hfs
    simp only [row_map, decide_true] at h16
    have h17 := d17 (bs.map fun _ => List.replicate n true) bs.length n (by simp; unfold big; omega) (fun l hl => by
      simp only [List.mem_map] at hl
      obtain ⟨a, _, rfl⟩ := hl
      simp; unfold big; omega)
    rw [show fullB (bs.map fun _ => List.replicate n true) bs.length n = true from by simp [fullB]] at h17
    rw [show ((bs.map fun _ => List.replicate n true).map fun l => [AV.sl false 1 (l.map fun x => [bv x])]) = bs.map (gC n) from by rw [List.map_map]; rfl] at h17
    clear hins hok hone hfs hs hcp
    repeat' (first
      | ((with_reducible apply Wo_u); (conv => lhs; simp -implicitDefEqProofs [*]) <;> exact rfl)
      | ((with_reducible apply Wo_n); (conv => lhs; simp -implicitDefEqProofs [*]) <;> exact rfl)
      | (with_reducible apply Wo_nil)
      | ((with_reducible apply Wo_gt); (exact rfl); ((conv => lhs; simp -implicitDefEqProofs [*]) <;> exact rfl); (conv => lhs; simp -implicitDefEqProofs [*]) <;> exact rfl)
      | ((with_reducible apply Wo_gf); (exact rfl); ((conv => lhs; simp -implicitDefEqProofs [*]) <;> exact rfl); (exact rfl))
      | ((with_reducible apply Wo_gx); (exact rfl); ((conv => lhs; simp -implicitDefEqProofs [*]) <;> exact rfl))
      | ((with_reducible apply Wo_gsT); (exact rfl); ((conv => lhs; simp -implicitDefEqProofs [*]) <;> exact rfl))
      | ((with_reducible apply Wo_gsF); (exact rfl); ((conv => lhs; simp -implicitDefEqProofs [*]) <;> exact rfl))
      | ((with_reducible apply ex2); (conv => lhs; simp -implicitDefEqProofs [*]) <;> exact rfl)
      | (with_reducible apply W_ss) | (with_reducible apply W_srl) | (with_reducible apply W_rl)
      | ((with_reducible apply W_sc); (conv => lhs; simp -implicitDefEqProofs [*]) <;> exact rfl)
      | ((with_reducible apply W_c); (conv => lhs; simp -implicitDefEqProofs [*]) <;> exact rfl)
      | ((with_reducible apply W_srdl); kernel_rfl) | ((with_reducible apply W_rdl); kernel_rfl)
      | ((with_reducible apply Wd_u); (conv => lhs; simp -implicitDefEqProofs [*]) <;> exact rfl)
      | ((with_reducible apply Wd_n); (conv => lhs; simp -implicitDefEqProofs [*]) <;> exact rfl)
      | ((with_reducible apply Wd_nil); exact rfl)
      | ((with_reducible apply Wd_gsT); (exact rfl); ((conv => lhs; simp -implicitDefEqProofs [*]) <;> exact rfl))
      | ((with_reducible apply Wd_gsF); (exact rfl); ((conv => lhs; simp -implicitDefEqProofs [*]) <;> exact rfl))
      | ((with_reducible apply ex4); (conv => lhs; simp -implicitDefEqProofs [*]) <;> exact rfl)
      | (with_reducible apply W_sblock) | (with_reducible apply W_block) | (with_reducible apply W_sskip) | (with_reducible apply W_skip) | (with_reducible apply W_sret) | (with_reducible apply W_ret) | (with_reducible apply W_sexit) | (with_reducible apply W_exit)
      | (with_reducible apply thenW_n) | (with_reducible apply thenW_r) | (with_reducible apply thenW_e) | (with_reducible apply inB_n) | (with_reducible apply inB_r) | (with_reducible apply inB_e) | ((with_reducible apply inB_o); rotate_left; exact rfl)
      | ((with_reducible apply EndQ_ret); (conv => lhs; simp -implicitDefEqProofs [*]) <;> exact rfl) | ((with_reducible apply EndQ_normal); (conv => lhs; simp -implicitDefEqProofs [*]) <;> exact rfl)
      | (intro h h'; try simp [*, -h] at h'))
    rfl
  · have h11 := d11 f ha
    rw [Bool.not_eq_true] at hs
    rw [hs] at h11
    repeat' (first
      | ((with_reducible apply Wo_u); (conv => lhs; simp -implicitDefEqProofs [*]) <;> exact rfl)
      | ((with_reducible apply Wo_n); (conv => lhs; simp -implicitDefEqProofs [*]) <;> exact rfl)
      | (with_reducible apply Wo_nil)
      | ((with_reducible apply Wo_gt); (exact rfl); ((conv => lhs; simp -implicitDefEqProofs [*]) <;> exact rfl); (conv => lhs; simp -implicitDefEqProofs [*]) <;> exact rfl)
      | ((with_reducible apply Wo_gf); (exact rfl); ((conv => lhs; simp -implicitDefEqProofs [*]) <;> exact rfl); (exact rfl))
      | ((with_reducible apply Wo_gx); (exact rfl); ((conv => lhs; simp -implicitDefEqProofs [*]) <;> exact rfl))
      | ((with_reducible apply Wo_gsT); (exact rfl); ((conv => lhs; simp -implicitDefEqProofs [*]) <;> exact rfl))
      | ((with_reducible apply Wo_gsF); (exact rfl); ((conv => lhs; simp -implicitDefEqProofs [*]) <;> exact rfl))
      | ((with_reducible apply ex2); (conv => lhs; simp -implicitDefEqProofs [*]) <;> exact rfl)
      | (with_reducible apply W_ss) | (with_reducible apply W_srl) | (with_reducible apply W_rl)
      | ((with_reducible apply W_sc); (conv => lhs; simp -implicitDefEqProofs [*]) <;> exact rfl)
      | ((with_reducible apply W_c); (conv => lhs; simp -implicitDefEqProofs [*]) <;> exact rfl)
      | ((with_reducible apply W_srdl); kernel_rfl) | ((with_reducible apply W_rdl); kernel_rfl)
      | ((with_reducible apply Wd_u); (conv => lhs; simp -implicitDefEqProofs [*]) <;> exact rfl)
      | ((with_reducible apply Wd_n); (conv => lhs; simp -implicitDefEqProofs [*]) <;> exact rfl)
      | ((with_reducible apply Wd_nil); exact rfl)
      | ((with_reducible apply Wd_gsT); (exact rfl); ((conv => lhs; simp -implicitDefEqProofs [*]) <;> exact rfl))
      | ((with_reducible apply Wd_gsF); (exact rfl); ((conv => lhs; simp -implicitDefEqProofs [*]) <;> exact rfl))
      | ((with_reducible apply ex4); (conv => lhs; simp -implicitDefEqProofs [*]) <;> exact rfl)
      | (with_reducible apply W_sblock) | (with_reducible apply W_block) | (with_reducible apply W_sskip) | (with_reducible apply W_skip) | (with_reducible apply W_sret) | (with_reducible apply W_ret) | (with_reducible apply W_sexit) | (with_reducible apply W_exit)
      | (with_reducible apply thenW_n) | (with_reducible apply thenW_r) | (with_reducible apply thenW_e) | (with_reducible apply inB_n) | (with_reducible apply inB_r) | (with_reducible apply inB_e) | ((with_reducible apply inB_o); rotate_left; exact rfl)
      | ((with_reducible apply EndQ_ret); (conv => lhs; simp -implicitDefEqProofs [*]) <;> exact rfl) | ((with_reducible apply EndQ_normal); (conv => lhs; simp -implicitDefEqProofs [*]) <;> exact rfl)
      | (intro h h'; try simp [*, -h] at h'))
    rfl
end Go.Proofs.Ytmfhdhiaokejdaa
