/- Compiling twice, by both parents, walked. -/
import Derived.Test.YtaeeffddinppeaaGreatDoorQM
import Derived.Test.YtaeeffddinppeaaGreatDoorQL
import Derived.Test.YtaeeffddinppeaaGreatDoorQ1
set_option linter.unusedSimpArgs false
set_option linter.unusedVariables false
namespace Go.Proofs.YtaeeffddinppeaaGreatDoor
open Go Go.Ab
attribute [-simp] Prog.bind getCs putCs
attribute [local simp ↓] run_bind
attribute [local simp ↓] runF_bind
attribute [local simp] run_getCsN runF_getCsN facetsC putCs_one run_putCsN runF_putCsN facetsW facetsH
abbrev rowN (l : List Int) : List (List AV) := l.map fun x => [iv x]
structure Par where
  kind : Int
  ps : List Int
  img : ByteArray
  fuel : Int
  mark : D4
  give : ByteArray
def Par.row (p : Par) : List AV := [iv p.kind, .sl false 1 (rowN p.ps), .sc (.string p.img), iv p.fuel, uv p.mark.d0, uv p.mark.d1, uv p.mark.d2, uv p.mark.d3, .sc (.string p.give)]
def diffL : List UInt8 → List UInt8 → Nat → Int
  | [], [], _ => -1
  | x :: a, y :: b, k => if x = y then diffL a b (k + 1) else k
  | _, _, k => k
def diffB (a b : ByteArray) : Int := diffL a.data.toList b.data.toList 0
theorem diffL_iff : ∀ (a b : List UInt8) (k : Nat), diffL a b k = -1 ↔ a = b
  | [], [], k => by simp [diffL]
  | x :: a, y :: b, k => by
    unfold diffL
    split
    · rename_i h
      rw [diffL_iff a b (k + 1), h]
      simp
    · rename_i h
      constructor
      · intro h'; omega
      · intro h'; simp at h'; exact (h h'.1).elim
  | [], y :: b, k => by simp only [diffL]; constructor <;> intro h <;> first | omega | (simp at h)
  | x :: a, [], k => by simp only [diffL]; constructor <;> intro h <;> first | omega | (simp at h)
theorem diffL_ge : ∀ (a b : List UInt8) (k : Nat), diffL a b k ≠ -1 → 0 ≤ diffL a b k
  | [], [], k, h => by simp [diffL] at h
  | x :: a, y :: b, k, h => by
    unfold diffL at h ⊢
    split
    · rename_i e; rw [if_pos e] at h; exact diffL_ge a b (k + 1) h
    · omega
  | [], y :: b, k, _ => by simp only [diffL]; omega
  | x :: a, [], k, _ => by simp only [diffL]; omega
theorem diffB_iff (a b : ByteArray) : diffB a b = -1 ↔ a = b := by
  unfold diffB
  rw [diffL_iff]
  constructor
  · intro h
    apply ByteArray.ext; apply Array.ext'; exact h
  · intro h; rw [h]
theorem diffB_ge {a b : ByteArray} (h : a ≠ b) : 0 ≤ diffB a b := diffL_ge _ _ _ fun e => h ((diffB_iff a b).1 e)
theorem diffL_step {a b : List UInt8} {k : Nat} (ha : k < a.length) (hb : k < b.length) : diffL (a.drop k) (b.drop k) k = if a[k] = b[k] then diffL (a.drop (k + 1)) (b.drop (k + 1)) (k + 1) else (k : Int) := by
  rw [List.drop_eq_getElem_cons ha, List.drop_eq_getElem_cons hb]
  rfl
theorem diffL_end {a b : List UInt8} {k : Nat} (h : k = min a.length b.length) : diffL (a.drop k) (b.drop k) k = if a.length = b.length then (-1 : Int) else (k : Int) := by
  rcases Nat.lt_trichotomy a.length b.length with h1 | h1 | h1
  · rw [if_neg (by omega), (show a.drop k = [] from List.drop_eq_nil_of_le (by omega)), List.drop_eq_getElem_cons (l := b) (by omega)]
    rfl
  · rw [if_pos h1, (show a.drop k = [] from List.drop_eq_nil_of_le (by omega)), (show b.drop k = [] from List.drop_eq_nil_of_le (by omega))]
    rfl
  · rw [if_neg (by omega), (show b.drop k = [] from List.drop_eq_nil_of_le (by omega)), List.drop_eq_getElem_cons (l := a) (by omega)]
    rfl
set_option maxHeartbeats 4000000 in
theorem g50 (a b : ByteArray) (ha : a.size ≤ 1048576) (hb : b.size ≤ 1048576)  : (lim Tryz.prog E47 X47).dat 50 [.sc (.string a), .sc (.string b)] = some [iv (diffB a b)] := by
  refine fnW Tryz.func50 rfl rfl bodyOk_50 rfl rtys_50 rfl ?_
  have hm : min (a.size : Int) (b.size : Int) = ((min a.size b.size : Nat) : Int) := by omega
  have hle1 : min a.size b.size ≤ a.size := Nat.min_le_left _ _
  have hle2 : min a.size b.size ≤ b.size := Nat.min_le_right _ _
  obtain ⟨N, hN⟩ : ∃ N, min a.size b.size = N := ⟨_, rfl⟩
  rw [hN] at hm hle1 hle2
  have hal : a.data.toList.length = a.size := rfl
  have hbl : b.data.toList.length = b.size := rfl
  repeat' (first
    | ((with_reducible first | apply Wo_u | apply Wo_n | apply ex2 | apply W_sc | apply W_c | apply Wd_u | apply Wd_n | apply ex4 | apply EndQ_ret | apply EndQ_normal); (conv => lhs; simp -implicitDefEqProofs [*]) <;> exact rfl)
    | (with_reducible first | apply Wo_nil | apply W_ss | apply W_srl | apply W_rl | apply W_sblock | apply W_block | apply W_sskip | apply W_skip | apply W_sret | apply W_ret | apply W_sexit | apply W_exit | apply thenW_n | apply thenW_r | apply thenW_e | apply inB_n | apply inB_r | apply inB_e)
    | ((with_reducible apply Wo_gt); (exact rfl); ((conv => lhs; simp -implicitDefEqProofs [*]) <;> exact rfl); (conv => lhs; simp -implicitDefEqProofs [*]) <;> exact rfl)
    | ((with_reducible apply Wo_gf); (exact rfl); ((conv => lhs; simp -implicitDefEqProofs [*]) <;> exact rfl); (exact rfl))
    | ((with_reducible apply Wo_gx); (exact rfl); ((conv => lhs; simp -implicitDefEqProofs [*]) <;> exact rfl))
    | ((with_reducible apply Wo_gsT); (exact rfl); ((conv => lhs; simp -implicitDefEqProofs [*]) <;> exact rfl))
    | ((with_reducible apply Wo_gsF); (exact rfl); ((conv => lhs; simp -implicitDefEqProofs [*]) <;> exact rfl))
    | ((with_reducible apply Wd_gsT); (exact rfl); ((conv => lhs; simp -implicitDefEqProofs [*]) <;> exact rfl))
    | ((with_reducible apply Wd_gsF); (exact rfl); ((conv => lhs; simp -implicitDefEqProofs [*]) <;> exact rfl))
    | ((with_reducible first | apply W_srdl | apply W_rdl); kernel_rfl)
    | ((with_reducible apply Wd_nil); kernel_rfl)
    | ((with_reducible apply inB_o); rotate_left; exact rfl)
    | (intro h h'; try simp [*, -h] at h')
    | ((with_reducible apply Wd_gx); (exact rfl); ((conv => lhs; simp -implicitDefEqProofs [*]) <;> exact rfl)))
  refine W_loopS (n := N + 1) (fun s0 m q => ∃ k : Nat, m = N + 1 - k ∧ k ≤ N ∧ diffB a b = diffL (a.data.toList.drop k) (b.data.toList.drop k) k ∧ q.fr 13 = iv k ∧ q.fr 0 = s0.fr 0 ∧ q.fr 1 = s0.fr 1 ∧ q.fr 12 = s0.fr 12 ∧ q.fr 5 = s0.fr 5) ⟨0, by simp, by omega, by simp [diffB], by simp, by simp, by simp, by simp, by simp⟩ ?_
  rintro m ⟨fr, hp⟩ ⟨k, rfl, hk, hdf, hs13, hs0, hs1, hs12, hs5⟩
  simp at hs13 hs0 hs1 hs12 hs5
  rw [hdf]
  have hw := wrapN (k := k) (by omega)
  by_cases hlt : k < N
  · have hlI : (k : Int) < N := by omega
    have ka : k < a.data.toList.length := by omega
    have kb : k < b.data.toList.length := by omega
    have hst := diffL_step (a := a.data.toList) (b := b.data.toList) ka kb
    have ga : a.data[k]? = some a.data.toList[k] := by rw [← Array.getElem?_toList]; exact List.getElem?_eq_getElem ka
    have gb : b.data[k]? = some b.data.toList[k] := by rw [← Array.getElem?_toList]; exact List.getElem?_eq_getElem kb
    have ka' : k < a.data.size := ka
    have kb' : k < b.data.size := kb
    obtain ⟨x, hx⟩ : ∃ x, a.data.toList[k] = x := ⟨_, rfl⟩
    obtain ⟨y, hy⟩ : ∃ y, b.data.toList[k] = y := ⟨_, rfl⟩
    rw [hx] at hst ga
    rw [hy] at hst gb
    have ga' : ∀ h, a.data[k]'h = x := fun h => by rw [← Array.getElem_toList]; exact hx
    have gb' : ∀ h, b.data[k]'h = y := fun h => by rw [← Array.getElem_toList]; exact hy
    have hxy : ((x.toNat : Int) != (y.toNat : Int)) = decide (x ≠ y) := by
      rw [bne_dec]
      refine decide_eq_decide.2 (not_congr ⟨fun h => UInt8.toNat_inj.1 (by omega), fun h => by rw [h]⟩)
    clear hx hy hN
    by_cases he : x = y
    · rw [if_pos he] at hst
      have hdf2 := hdf.trans hst
      rw [← hdf]
      clear hdf hst
      have hxy2 : ((x.toNat : Int) != (y.toNat : Int)) = false := by rw [hxy]; simp [he]
      clear hxy he
      generalize diffB a b = D at *
      repeat' (first
        | ((with_reducible first | apply Wo_u | apply Wo_n | apply ex2 | apply W_sc | apply W_c | apply Wd_u | apply Wd_n | apply ex4 | apply EndQ_ret | apply EndQ_normal); (conv => lhs; simp -implicitDefEqProofs [*]) <;> exact rfl)
        | (with_reducible first | apply Wo_nil | apply W_ss | apply W_srl | apply W_rl | apply W_sblock | apply W_block | apply W_sskip | apply W_skip | apply W_sret | apply W_ret | apply W_sexit | apply W_exit | apply thenW_n | apply thenW_r | apply thenW_e | apply inB_n | apply inB_r | apply inB_e)
        | ((with_reducible apply Wo_gt); (exact rfl); ((conv => lhs; simp -implicitDefEqProofs [*]) <;> exact rfl); (conv => lhs; simp -implicitDefEqProofs [*]) <;> exact rfl)
        | ((with_reducible apply Wo_gf); (exact rfl); ((conv => lhs; simp -implicitDefEqProofs [*]) <;> exact rfl); (exact rfl))
        | ((with_reducible apply Wo_gx); (exact rfl); ((conv => lhs; simp -implicitDefEqProofs [*]) <;> exact rfl))
        | ((with_reducible apply Wo_gsT); (exact rfl); ((conv => lhs; simp -implicitDefEqProofs [*]) <;> exact rfl))
        | ((with_reducible apply Wo_gsF); (exact rfl); ((conv => lhs; simp -implicitDefEqProofs [*]) <;> exact rfl))
        | ((with_reducible apply Wd_gsT); (exact rfl); ((conv => lhs; simp -implicitDefEqProofs [*]) <;> exact rfl))
        | ((with_reducible apply Wd_gsF); (exact rfl); ((conv => lhs; simp -implicitDefEqProofs [*]) <;> exact rfl))
        | ((with_reducible first | apply W_srdl | apply W_rdl); kernel_rfl)
        | ((with_reducible apply Wd_nil); kernel_rfl)
        | ((with_reducible apply inB_o); rotate_left; exact rfl)
        | (intro h h'; try simp [*, -h] at h')
        | ((with_reducible apply Wd_gx); (exact rfl); ((conv => lhs; simp -implicitDefEqProofs [*]) <;> exact rfl)))
      all_goals exact ⟨_, by omega, k + 1, rfl, hlt, hdf2, by simp [*], by simp [*], by simp [*], by simp [*], by simp [*]⟩
    · rw [if_neg he] at hst
      have hxy2 : ((x.toNat : Int) != (y.toNat : Int)) = true := by rw [hxy]; simp [he]
      rw [hst]
      clear hxy he hst hdf
      repeat' (first
        | ((with_reducible first | apply Wo_u | apply Wo_n | apply ex2 | apply W_sc | apply W_c | apply Wd_u | apply Wd_n | apply ex4 | apply EndQ_ret | apply EndQ_normal); (conv => lhs; simp -implicitDefEqProofs [*]) <;> exact rfl)
        | (with_reducible first | apply Wo_nil | apply W_ss | apply W_srl | apply W_rl | apply W_sblock | apply W_block | apply W_sskip | apply W_skip | apply W_sret | apply W_ret | apply W_sexit | apply W_exit | apply thenW_n | apply thenW_r | apply thenW_e | apply inB_n | apply inB_r | apply inB_e)
        | ((with_reducible apply Wo_gt); (exact rfl); ((conv => lhs; simp -implicitDefEqProofs [*]) <;> exact rfl); (conv => lhs; simp -implicitDefEqProofs [*]) <;> exact rfl)
        | ((with_reducible apply Wo_gf); (exact rfl); ((conv => lhs; simp -implicitDefEqProofs [*]) <;> exact rfl); (exact rfl))
        | ((with_reducible apply Wo_gx); (exact rfl); ((conv => lhs; simp -implicitDefEqProofs [*]) <;> exact rfl))
        | ((with_reducible apply Wo_gsT); (exact rfl); ((conv => lhs; simp -implicitDefEqProofs [*]) <;> exact rfl))
        | ((with_reducible apply Wo_gsF); (exact rfl); ((conv => lhs; simp -implicitDefEqProofs [*]) <;> exact rfl))
        | ((with_reducible apply Wd_gsT); (exact rfl); ((conv => lhs; simp -implicitDefEqProofs [*]) <;> exact rfl))
        | ((with_reducible apply Wd_gsF); (exact rfl); ((conv => lhs; simp -implicitDefEqProofs [*]) <;> exact rfl))
        | ((with_reducible first | apply W_srdl | apply W_rdl); kernel_rfl)
        | ((with_reducible apply Wd_nil); kernel_rfl)
        | ((with_reducible apply inB_o); rotate_left; exact rfl)
        | (intro h h'; try simp [*, -h] at h')
        | ((with_reducible apply Wd_gx); (exact rfl); ((conv => lhs; simp -implicitDefEqProofs [*]) <;> exact rfl)))
      all_goals rfl
  · obtain rfl : k = N := by omega
    have hen := diffL_end (a := a.data.toList) (b := b.data.toList) (k := k) (by rw [hal, hbl]; exact hN.symm)
    rw [hen, hal, hbl]
    have hnI : ¬ (k : Int) < k := by omega
    have hb2 : ((a.size : Int) != (b.size : Int)) = decide (a.size ≠ b.size) := by rw [bne_dec]; exact decide_eq_decide.2 (by omega)
    clear hdf hN hen
    by_cases he : a.size = b.size
    all_goals simp only [he, ne_eq, not_true, not_false_iff, if_true, if_false, decide_true, decide_false] at hb2 ⊢
    all_goals
      repeat' (first
        | ((with_reducible first | apply Wo_u | apply Wo_n | apply ex2 | apply W_sc | apply W_c | apply Wd_u | apply Wd_n | apply ex4 | apply EndQ_ret | apply EndQ_normal); (conv => lhs; simp -implicitDefEqProofs [*]) <;> exact rfl)
        | (with_reducible first | apply Wo_nil | apply W_ss | apply W_srl | apply W_rl | apply W_sblock | apply W_block | apply W_sskip | apply W_skip | apply W_sret | apply W_ret | apply W_sexit | apply W_exit | apply thenW_n | apply thenW_r | apply thenW_e | apply inB_n | apply inB_r | apply inB_e)
        | ((with_reducible apply Wo_gt); (exact rfl); ((conv => lhs; simp -implicitDefEqProofs [*]) <;> exact rfl); (conv => lhs; simp -implicitDefEqProofs [*]) <;> exact rfl)
        | ((with_reducible apply Wo_gf); (exact rfl); ((conv => lhs; simp -implicitDefEqProofs [*]) <;> exact rfl); (exact rfl))
        | ((with_reducible apply Wo_gx); (exact rfl); ((conv => lhs; simp -implicitDefEqProofs [*]) <;> exact rfl))
        | ((with_reducible apply Wo_gsT); (exact rfl); ((conv => lhs; simp -implicitDefEqProofs [*]) <;> exact rfl))
        | ((with_reducible apply Wo_gsF); (exact rfl); ((conv => lhs; simp -implicitDefEqProofs [*]) <;> exact rfl))
        | ((with_reducible apply Wd_gsT); (exact rfl); ((conv => lhs; simp -implicitDefEqProofs [*]) <;> exact rfl))
        | ((with_reducible apply Wd_gsF); (exact rfl); ((conv => lhs; simp -implicitDefEqProofs [*]) <;> exact rfl))
        | ((with_reducible first | apply W_srdl | apply W_rdl); kernel_rfl)
        | ((with_reducible apply Wd_nil); kernel_rfl)
        | ((with_reducible apply inB_o); rotate_left; exact rfl)
        | (intro h h'; try simp [*, -h] at h')
        | ((with_reducible apply Wd_gx); (exact rfl); ((conv => lhs; simp -implicitDefEqProofs [*]) <;> exact rfl)))
    all_goals rfl
end Go.Proofs.YtaeeffddinppeaaGreatDoor

namespace Go.Proofs.YtaeeffddinppeaaGreatDoor
open Go Go.Ab
attribute [-simp] Prog.bind getCs putCs
attribute [local simp ↓] run_bind
attribute [local simp ↓] runF_bind
attribute [local simp] run_getCsN runF_getCsN facetsC putCs_one run_putCsN runF_putCsN facetsW facetsH
set_option maxHeartbeats 4000000 in
theorem g16m (q : Par) (src : ByteArray) (hk : q.kind = 4) (hm : q.mark = ofP src) (hs : src.size ≤ 1000000) : (lim Tryz.prog E47 X47).dat 16 [.agg q.row, .sc (.string src)] = some [.sc (.string q.give), iv 0] := by
  refine fnW Tryz.func16 rfl rfl bodyOk_16 rfl rtys_16 rfl ?_
  have h := e34 src hs
  rw [← hm] at h
  obtain ⟨kind, ps, img, fuel, ⟨d0, d1, d2, d3⟩, give⟩ := q
  simp only at hk hm
  subst hk
  clear hm
  simp only [D4.row, Par.row] at h ⊢
  generalize rowN ps = PR at *
  repeat' (first
    | ((with_reducible first | apply Wo_u | apply Wo_n | apply ex2 | apply W_sc | apply W_c | apply Wd_u | apply Wd_n | apply ex4 | apply EndQ_ret | apply EndQ_normal); (conv => lhs; simp -implicitDefEqProofs [*]) <;> exact rfl)
    | (with_reducible first | apply Wo_nil | apply W_ss | apply W_srl | apply W_rl | apply W_sblock | apply W_block | apply W_sskip | apply W_skip | apply W_sret | apply W_ret | apply W_sexit | apply W_exit | apply thenW_n | apply thenW_r | apply thenW_e | apply inB_n | apply inB_r | apply inB_e)
    | ((with_reducible apply Wo_gt); (exact rfl); ((conv => lhs; simp -implicitDefEqProofs [*]) <;> exact rfl); (conv => lhs; simp -implicitDefEqProofs [*]) <;> exact rfl)
    | ((with_reducible apply Wo_gf); (exact rfl); ((conv => lhs; simp -implicitDefEqProofs [*]) <;> exact rfl); (exact rfl))
    | ((with_reducible apply Wo_gx); (exact rfl); ((conv => lhs; simp -implicitDefEqProofs [*]) <;> exact rfl))
    | ((with_reducible apply Wo_gsT); (exact rfl); ((conv => lhs; simp -implicitDefEqProofs [*]) <;> exact rfl))
    | ((with_reducible apply Wo_gsF); (exact rfl); ((conv => lhs; simp -implicitDefEqProofs [*]) <;> exact rfl))
    | ((with_reducible apply Wd_gsT); (exact rfl); ((conv => lhs; simp -implicitDefEqProofs [*]) <;> exact rfl))
    | ((with_reducible apply Wd_gsF); (exact rfl); ((conv => lhs; simp -implicitDefEqProofs [*]) <;> exact rfl))
    | ((with_reducible first | apply W_srdl | apply W_rdl); kernel_rfl)
    | ((with_reducible apply Wd_nil); kernel_rfl)
    | ((with_reducible apply inB_o); rotate_left; exact rfl)
    | (intro h h'; try simp [*, -h] at h')
    | ((with_reducible apply Wd_gx); (exact rfl); ((conv => lhs; simp -implicitDefEqProofs [*]) <;> exact rfl)))
  all_goals rfl
def onceR (r : Option ByteArray) (other : ByteArray) : List AV := match r with
  | none => [iv 12, iv (-1)]
  | some o => if diffB o other = -1 then [iv 0, iv (-1)] else [iv 8, iv (diffB o other)]
set_option maxHeartbeats 4000000 in
theorem g49 (q : Par) (src : ByteArray) (fuel : Int) (hs : src.size ≤ 1048576) (hf : fuel ≤ 4611686018427387903) (hg : q.give.size ≤ 1048576) (h16 : (lim Tryz.prog E47 X47).dat 16 [.agg q.row, .sc (.string src)] = some [.sc (.string q.give), iv 0]) : (lim Tryz.prog E47 X47).dat 49 [.sc (.string src), .agg q.row, iv fuel] = some (resT (goodI q.give src fuel)) := by
  refine fnW Tryz.func49 rfl rfl bodyOk_49 rfl rtys_49 rfl ?_
  have h52 := g52 q.give src fuel hg hs hf
  obtain ⟨kind, ps, img, qf, ⟨d0, d1, d2, d3⟩, give⟩ := q
  simp only [Par.row] at h16 h52 ⊢
  generalize rowN ps = PR at *
  generalize goodI give src fuel = r at *
  clear hf hg hs
  cases r
  all_goals simp only [resT] at h52 ⊢
  all_goals
    repeat' (first
      | ((with_reducible first | apply Wo_u | apply Wo_n | apply ex2 | apply W_sc | apply W_c | apply Wd_u | apply Wd_n | apply ex4 | apply EndQ_ret | apply EndQ_normal); (conv => lhs; simp -implicitDefEqProofs [*]) <;> exact rfl)
      | (with_reducible first | apply Wo_nil | apply W_ss | apply W_srl | apply W_rl | apply W_sblock | apply W_block | apply W_sskip | apply W_skip | apply W_sret | apply W_ret | apply W_sexit | apply W_exit | apply thenW_n | apply thenW_r | apply thenW_e | apply inB_n | apply inB_r | apply inB_e)
      | ((with_reducible apply Wo_gt); (exact rfl); ((conv => lhs; simp -implicitDefEqProofs [*]) <;> exact rfl); (conv => lhs; simp -implicitDefEqProofs [*]) <;> exact rfl)
      | ((with_reducible apply Wo_gf); (exact rfl); ((conv => lhs; simp -implicitDefEqProofs [*]) <;> exact rfl); (exact rfl))
      | ((with_reducible apply Wo_gx); (exact rfl); ((conv => lhs; simp -implicitDefEqProofs [*]) <;> exact rfl))
      | ((with_reducible apply Wo_gsT); (exact rfl); ((conv => lhs; simp -implicitDefEqProofs [*]) <;> exact rfl))
      | ((with_reducible apply Wo_gsF); (exact rfl); ((conv => lhs; simp -implicitDefEqProofs [*]) <;> exact rfl))
      | ((with_reducible apply Wd_gsT); (exact rfl); ((conv => lhs; simp -implicitDefEqProofs [*]) <;> exact rfl))
      | ((with_reducible apply Wd_gsF); (exact rfl); ((conv => lhs; simp -implicitDefEqProofs [*]) <;> exact rfl))
      | ((with_reducible first | apply W_srdl | apply W_rdl); kernel_rfl)
      | ((with_reducible apply Wd_nil); kernel_rfl)
      | ((with_reducible apply inB_o); rotate_left; exact rfl)
      | (intro h h'; try simp [*, -h] at h')
      | ((with_reducible apply Wd_gx); (exact rfl); ((conv => lhs; simp -implicitDefEqProofs [*]) <;> exact rfl)))
  all_goals rfl
set_option maxHeartbeats 4000000 in
theorem g24 (q : Par) (src other : ByteArray) (fuel : Int) (r : Option ByteArray) (ho : other.size ≤ 1048576) (hr : ∀ o, r = some o → o.size ≤ 1048576) (h49 : (lim Tryz.prog E47 X47).dat 49 [.sc (.string src), .agg q.row, iv fuel] = some (resT r)) : (lim Tryz.prog E47 X47).dat 24 [.sc (.string src), .sc (.string other), .agg q.row, iv fuel] = some (onceR r other) := by
  refine fnW Tryz.func24 rfl rfl bodyOk_24 rfl rtys_24 rfl ?_
  obtain ⟨kind, ps, img, qf, ⟨d0, d1, d2, d3⟩, give⟩ := q
  simp only [Par.row] at h49 ⊢
  generalize rowN ps = PR at *
  cases r with
  | none =>
    simp only [resT, onceR] at h49 ⊢
    repeat' (first
      | ((with_reducible first | apply Wo_u | apply Wo_n | apply ex2 | apply W_sc | apply W_c | apply Wd_u | apply Wd_n | apply ex4 | apply EndQ_ret | apply EndQ_normal); (conv => lhs; simp -implicitDefEqProofs [*]) <;> exact rfl)
      | (with_reducible first | apply Wo_nil | apply W_ss | apply W_srl | apply W_rl | apply W_sblock | apply W_block | apply W_sskip | apply W_skip | apply W_sret | apply W_ret | apply W_sexit | apply W_exit | apply thenW_n | apply thenW_r | apply thenW_e | apply inB_n | apply inB_r | apply inB_e)
      | ((with_reducible apply Wo_gt); (exact rfl); ((conv => lhs; simp -implicitDefEqProofs [*]) <;> exact rfl); (conv => lhs; simp -implicitDefEqProofs [*]) <;> exact rfl)
      | ((with_reducible apply Wo_gf); (exact rfl); ((conv => lhs; simp -implicitDefEqProofs [*]) <;> exact rfl); (exact rfl))
      | ((with_reducible apply Wo_gx); (exact rfl); ((conv => lhs; simp -implicitDefEqProofs [*]) <;> exact rfl))
      | ((with_reducible apply Wo_gsT); (exact rfl); ((conv => lhs; simp -implicitDefEqProofs [*]) <;> exact rfl))
      | ((with_reducible apply Wo_gsF); (exact rfl); ((conv => lhs; simp -implicitDefEqProofs [*]) <;> exact rfl))
      | ((with_reducible apply Wd_gsT); (exact rfl); ((conv => lhs; simp -implicitDefEqProofs [*]) <;> exact rfl))
      | ((with_reducible apply Wd_gsF); (exact rfl); ((conv => lhs; simp -implicitDefEqProofs [*]) <;> exact rfl))
      | ((with_reducible first | apply W_srdl | apply W_rdl); kernel_rfl)
      | ((with_reducible apply Wd_nil); kernel_rfl)
      | ((with_reducible apply inB_o); rotate_left; exact rfl)
      | (intro h h'; try simp [*, -h] at h')
      | ((with_reducible apply Wd_gx); (exact rfl); ((conv => lhs; simp -implicitDefEqProofs [*]) <;> exact rfl)))
    all_goals rfl
  | some o =>
    have h50 := g50 o other (hr o rfl) ho
    clear ho hr
    simp only [resT, onceR] at h49 ⊢
    by_cases hd : diffB o other = -1
    · rw [if_pos hd]
      rw [hd] at h50
      repeat' (first
        | ((with_reducible first | apply Wo_u | apply Wo_n | apply ex2 | apply W_sc | apply W_c | apply Wd_u | apply Wd_n | apply ex4 | apply EndQ_ret | apply EndQ_normal); (conv => lhs; simp -implicitDefEqProofs [*]) <;> exact rfl)
        | (with_reducible first | apply Wo_nil | apply W_ss | apply W_srl | apply W_rl | apply W_sblock | apply W_block | apply W_sskip | apply W_skip | apply W_sret | apply W_ret | apply W_sexit | apply W_exit | apply thenW_n | apply thenW_r | apply thenW_e | apply inB_n | apply inB_r | apply inB_e)
        | ((with_reducible apply Wo_gt); (exact rfl); ((conv => lhs; simp -implicitDefEqProofs [*]) <;> exact rfl); (conv => lhs; simp -implicitDefEqProofs [*]) <;> exact rfl)
        | ((with_reducible apply Wo_gf); (exact rfl); ((conv => lhs; simp -implicitDefEqProofs [*]) <;> exact rfl); (exact rfl))
        | ((with_reducible apply Wo_gx); (exact rfl); ((conv => lhs; simp -implicitDefEqProofs [*]) <;> exact rfl))
        | ((with_reducible apply Wo_gsT); (exact rfl); ((conv => lhs; simp -implicitDefEqProofs [*]) <;> exact rfl))
        | ((with_reducible apply Wo_gsF); (exact rfl); ((conv => lhs; simp -implicitDefEqProofs [*]) <;> exact rfl))
        | ((with_reducible apply Wd_gsT); (exact rfl); ((conv => lhs; simp -implicitDefEqProofs [*]) <;> exact rfl))
        | ((with_reducible apply Wd_gsF); (exact rfl); ((conv => lhs; simp -implicitDefEqProofs [*]) <;> exact rfl))
        | ((with_reducible first | apply W_srdl | apply W_rdl); kernel_rfl)
        | ((with_reducible apply Wd_nil); kernel_rfl)
        | ((with_reducible apply inB_o); rotate_left; exact rfl)
        | (intro h h'; try simp [*, -h] at h')
        | ((with_reducible apply Wd_gx); (exact rfl); ((conv => lhs; simp -implicitDefEqProofs [*]) <;> exact rfl)))
      all_goals rfl
    · rw [if_neg hd]
      have hge : 0 ≤ diffB o other := diffB_ge fun e => hd ((diffB_iff _ _).2 e)
      generalize diffB o other = D at *
      repeat' (first
        | ((with_reducible first | apply Wo_u | apply Wo_n | apply ex2 | apply W_sc | apply W_c | apply Wd_u | apply Wd_n | apply ex4 | apply EndQ_ret | apply EndQ_normal); (conv => lhs; simp -implicitDefEqProofs [*]) <;> exact rfl)
        | (with_reducible first | apply Wo_nil | apply W_ss | apply W_srl | apply W_rl | apply W_sblock | apply W_block | apply W_sskip | apply W_skip | apply W_sret | apply W_ret | apply W_sexit | apply W_exit | apply thenW_n | apply thenW_r | apply thenW_e | apply inB_n | apply inB_r | apply inB_e)
        | ((with_reducible apply Wo_gt); (exact rfl); ((conv => lhs; simp -implicitDefEqProofs [*]) <;> exact rfl); (conv => lhs; simp -implicitDefEqProofs [*]) <;> exact rfl)
        | ((with_reducible apply Wo_gf); (exact rfl); ((conv => lhs; simp -implicitDefEqProofs [*]) <;> exact rfl); (exact rfl))
        | ((with_reducible apply Wo_gx); (exact rfl); ((conv => lhs; simp -implicitDefEqProofs [*]) <;> exact rfl))
        | ((with_reducible apply Wo_gsT); (exact rfl); ((conv => lhs; simp -implicitDefEqProofs [*]) <;> exact rfl))
        | ((with_reducible apply Wo_gsF); (exact rfl); ((conv => lhs; simp -implicitDefEqProofs [*]) <;> exact rfl))
        | ((with_reducible apply Wd_gsT); (exact rfl); ((conv => lhs; simp -implicitDefEqProofs [*]) <;> exact rfl))
        | ((with_reducible apply Wd_gsF); (exact rfl); ((conv => lhs; simp -implicitDefEqProofs [*]) <;> exact rfl))
        | ((with_reducible first | apply W_srdl | apply W_rdl); kernel_rfl)
        | ((with_reducible apply Wd_nil); kernel_rfl)
        | ((with_reducible apply inB_o); rotate_left; exact rfl)
        | (intro h h'; try simp [*, -h] at h')
        | ((with_reducible apply Wd_gx); (exact rfl); ((conv => lhs; simp -implicitDefEqProofs [*]) <;> exact rfl)))
      all_goals rfl
def checkR (e1 a1 e2 a2 : Int) : List AV := if e1 ≠ 0 then [iv e1, iv 0, iv a1] else if e2 ≠ 0 then [iv e2, iv 1, iv a2] else [iv 0, iv (-1), iv (-1)]
set_option maxHeartbeats 8000000 in
theorem g22 (q q' : Par) (src other : ByteArray) (fuel e1 a1 e2 a2 : Int) (h1 : (lim Tryz.prog E47 X47).dat 24 [.sc (.string src), .sc (.string other), .agg q.row, iv fuel] = some [iv e1, iv a1]) (h2 : (lim Tryz.prog E47 X47).dat 24 [.sc (.string src), .sc (.string other), .agg q'.row, iv fuel] = some [iv e2, iv a2]) : (lim Tryz.prog E47 X47).dat 22 [.sc (.string src), .sc (.string other), .agg q.row, .agg q'.row, iv fuel] = some [.agg (checkR e1 a1 e2 a2)] := by
  refine fnW Tryz.func22 rfl rfl bodyOk_22 rfl rtys_22 rfl ?_
  obtain ⟨kind, ps, img, qf, ⟨d0, d1, d2, d3⟩, give⟩ := q
  obtain ⟨kind', ps', img', qf', ⟨d0', d1', d2', d3'⟩, give'⟩ := q'
  simp only [Par.row, checkR] at h1 h2 ⊢
  generalize rowN ps = PR at *
  generalize rowN ps' = PR' at *
  have hb1 := bne_dec e1 0
  have hb2 := bne_dec e2 0
  by_cases c1 : e1 = 0
  · subst c1
    by_cases c2 : e2 = 0
    · subst c2
      repeat' (first
        | ((with_reducible first | apply Wo_u | apply Wo_n | apply ex2 | apply W_sc | apply W_c | apply Wd_u | apply Wd_n | apply ex4 | apply EndQ_ret | apply EndQ_normal); (conv => lhs; simp -implicitDefEqProofs [*]) <;> exact rfl)
        | (with_reducible first | apply Wo_nil | apply W_ss | apply W_srl | apply W_rl | apply W_sblock | apply W_block | apply W_sskip | apply W_skip | apply W_sret | apply W_ret | apply W_sexit | apply W_exit | apply thenW_n | apply thenW_r | apply thenW_e | apply inB_n | apply inB_r | apply inB_e)
        | ((with_reducible apply Wo_gt); (exact rfl); ((conv => lhs; simp -implicitDefEqProofs [*]) <;> exact rfl); (conv => lhs; simp -implicitDefEqProofs [*]) <;> exact rfl)
        | ((with_reducible apply Wo_gf); (exact rfl); ((conv => lhs; simp -implicitDefEqProofs [*]) <;> exact rfl); (exact rfl))
        | ((with_reducible apply Wo_gx); (exact rfl); ((conv => lhs; simp -implicitDefEqProofs [*]) <;> exact rfl))
        | ((with_reducible apply Wo_gsT); (exact rfl); ((conv => lhs; simp -implicitDefEqProofs [*]) <;> exact rfl))
        | ((with_reducible apply Wo_gsF); (exact rfl); ((conv => lhs; simp -implicitDefEqProofs [*]) <;> exact rfl))
        | ((with_reducible apply Wd_gsT); (exact rfl); ((conv => lhs; simp -implicitDefEqProofs [*]) <;> exact rfl))
        | ((with_reducible apply Wd_gsF); (exact rfl); ((conv => lhs; simp -implicitDefEqProofs [*]) <;> exact rfl))
        | ((with_reducible first | apply W_srdl | apply W_rdl); kernel_rfl)
        | ((with_reducible apply Wd_nil); kernel_rfl)
        | ((with_reducible apply inB_o); rotate_left; exact rfl)
        | (intro h h'; try simp [*, -h] at h')
        | ((with_reducible apply Wd_gx); (exact rfl); ((conv => lhs; simp -implicitDefEqProofs [*]) <;> exact rfl))
        | with_reducible apply W_unroll)
      all_goals rfl
    · simp only [c2, ne_eq, not_true, not_false_iff, if_true, if_false, decide_true, decide_false] at hb2 ⊢
      repeat' (first
        | ((with_reducible first | apply Wo_u | apply Wo_n | apply ex2 | apply W_sc | apply W_c | apply Wd_u | apply Wd_n | apply ex4 | apply EndQ_ret | apply EndQ_normal); (conv => lhs; simp -implicitDefEqProofs [*]) <;> exact rfl)
        | (with_reducible first | apply Wo_nil | apply W_ss | apply W_srl | apply W_rl | apply W_sblock | apply W_block | apply W_sskip | apply W_skip | apply W_sret | apply W_ret | apply W_sexit | apply W_exit | apply thenW_n | apply thenW_r | apply thenW_e | apply inB_n | apply inB_r | apply inB_e)
        | ((with_reducible apply Wo_gt); (exact rfl); ((conv => lhs; simp -implicitDefEqProofs [*]) <;> exact rfl); (conv => lhs; simp -implicitDefEqProofs [*]) <;> exact rfl)
        | ((with_reducible apply Wo_gf); (exact rfl); ((conv => lhs; simp -implicitDefEqProofs [*]) <;> exact rfl); (exact rfl))
        | ((with_reducible apply Wo_gx); (exact rfl); ((conv => lhs; simp -implicitDefEqProofs [*]) <;> exact rfl))
        | ((with_reducible apply Wo_gsT); (exact rfl); ((conv => lhs; simp -implicitDefEqProofs [*]) <;> exact rfl))
        | ((with_reducible apply Wo_gsF); (exact rfl); ((conv => lhs; simp -implicitDefEqProofs [*]) <;> exact rfl))
        | ((with_reducible apply Wd_gsT); (exact rfl); ((conv => lhs; simp -implicitDefEqProofs [*]) <;> exact rfl))
        | ((with_reducible apply Wd_gsF); (exact rfl); ((conv => lhs; simp -implicitDefEqProofs [*]) <;> exact rfl))
        | ((with_reducible first | apply W_srdl | apply W_rdl); kernel_rfl)
        | ((with_reducible apply Wd_nil); kernel_rfl)
        | ((with_reducible apply inB_o); rotate_left; exact rfl)
        | (intro h h'; try simp [*, -h] at h')
        | ((with_reducible apply Wd_gx); (exact rfl); ((conv => lhs; simp -implicitDefEqProofs [*]) <;> exact rfl))
        | with_reducible apply W_unroll)
      all_goals rfl
  · simp only [c1, ne_eq, not_true, not_false_iff, if_true, if_false, decide_true, decide_false] at hb1 ⊢
    repeat' (first
      | ((with_reducible first | apply Wo_u | apply Wo_n | apply ex2 | apply W_sc | apply W_c | apply Wd_u | apply Wd_n | apply ex4 | apply EndQ_ret | apply EndQ_normal); (conv => lhs; simp -implicitDefEqProofs [*]) <;> exact rfl)
      | (with_reducible first | apply Wo_nil | apply W_ss | apply W_srl | apply W_rl | apply W_sblock | apply W_block | apply W_sskip | apply W_skip | apply W_sret | apply W_ret | apply W_sexit | apply W_exit | apply thenW_n | apply thenW_r | apply thenW_e | apply inB_n | apply inB_r | apply inB_e)
      | ((with_reducible apply Wo_gt); (exact rfl); ((conv => lhs; simp -implicitDefEqProofs [*]) <;> exact rfl); (conv => lhs; simp -implicitDefEqProofs [*]) <;> exact rfl)
      | ((with_reducible apply Wo_gf); (exact rfl); ((conv => lhs; simp -implicitDefEqProofs [*]) <;> exact rfl); (exact rfl))
      | ((with_reducible apply Wo_gx); (exact rfl); ((conv => lhs; simp -implicitDefEqProofs [*]) <;> exact rfl))
      | ((with_reducible apply Wo_gsT); (exact rfl); ((conv => lhs; simp -implicitDefEqProofs [*]) <;> exact rfl))
      | ((with_reducible apply Wo_gsF); (exact rfl); ((conv => lhs; simp -implicitDefEqProofs [*]) <;> exact rfl))
      | ((with_reducible apply Wd_gsT); (exact rfl); ((conv => lhs; simp -implicitDefEqProofs [*]) <;> exact rfl))
      | ((with_reducible apply Wd_gsF); (exact rfl); ((conv => lhs; simp -implicitDefEqProofs [*]) <;> exact rfl))
      | ((with_reducible first | apply W_srdl | apply W_rdl); kernel_rfl)
      | ((with_reducible apply Wd_nil); kernel_rfl)
      | ((with_reducible apply inB_o); rotate_left; exact rfl)
      | (intro h h'; try simp [*, -h] at h')
      | ((with_reducible apply Wd_gx); (exact rfl); ((conv => lhs; simp -implicitDefEqProofs [*]) <;> exact rfl))
      | with_reducible apply W_unroll)
    all_goals rfl
end Go.Proofs.YtaeeffddinppeaaGreatDoor
