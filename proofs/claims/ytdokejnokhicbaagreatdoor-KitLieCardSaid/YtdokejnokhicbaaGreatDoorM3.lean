/- Law 47: words and images as bytes, walked. -/
import Derived.Test.YtdokejnokhicbaaGreatDoorM1
import Derived.Test.YtdokejnokhicbaaGreatDoorK3
import Derived.Test.YtdokejnokhicbaaGreatDoorM2
namespace Go.Proofs.YtdokejnokhicbaaGreatDoor
open Go Go.Ab Go.RowKit
set_option linter.unusedSimpArgs false
set_option linter.unusedVariables false
abbrev iv (n : Int) : AV := .sc (.int .i64 n)
abbrev bv (b : Bool) : AV := .sc (.bool b)
abbrev uv (n : Int) : AV := .sc (.int .u32 n)
abbrev rowW (l : List Int) : List (List AV) := l.map fun x => [uv x]
def imgB (s : ByteArray) : Bool := decide (12 ≤ s.size) && decide (s.extract 0 4 = ⟨#[83, 69, 69, 68]⟩) && decide (s.size ≤ 65548) && decide (wordAt s 8 ≤ 32768) && decide ((s.size : Int) = 12 + 4 * wordAt s 4)
theorem imgB_iff (s : ByteArray) : imgB s = true ↔ isImg s := by
  unfold imgB isImg
  simp only [Bool.and_eq_true, decide_eq_true_eq]
  exact ⟨fun ⟨⟨⟨⟨a, b⟩, c⟩, d⟩, e⟩ => ⟨a, b, c, d, e⟩, fun ⟨a, b, c, d, e⟩ => ⟨⟨⟨⟨a, b⟩, c⟩, d⟩, e⟩⟩
/-- An image's code. -/
def codeOf (s : ByteArray) : List Int := wordsOf (s.extract 12 s.size)
def readR (s : ByteArray) : List AV := if imgB s then [.agg [.vec 1 (rowW (codeOf s)), iv (wordAt s 8)], iv 0] else [.agg [.vec 1 [], iv 0], iv 7]
def readO : List AV → Option (List AV)
  | [.sc (.string s)] => if s.size ≤ 1048576 then some (readR s) else none
  | _ => none
def X47 : Orc := ⟨fun f args => if f = 23 then readO args else none, fun _ _ _ _ _ => none⟩
theorem rows_words (I : Nat → Prop) (w : World) : ∀ l : List Int, RepRows I w 1 (rowW l) (l.map (Value.int .u32))
  | [] => by simp [RepRows]
  | x :: l => by
    simp only [List.map_cons, RepRows]
    exact ⟨[.int .u32 x], l.map (Value.int .u32), rfl, rfl, by simp [RepDL, RepD, Value.oneCell'], rows_words I w l⟩
set_option maxRecDepth 200000 in
theorem X47_ok : OrcOk Tryz.prog X47 := by
  refine ⟨fun f args rs h hok I w us hI hgl ha => ?_, fun k d f args hp v hp' h => by simp [X47] at h⟩
  simp only [X47] at h
  split at h
  · rename_i hf
    subst hf
    unfold readO at h
    split at h
    · rename_i s
      split at h
      · rename_i hs
        cases h
        obtain ⟨u, rfl⟩ : ∃ u, us = [u] := by
          have := ha.1
          match us, this with
          | [u], _ => exact ⟨u, rfl⟩
        have h0 := ha.2 0 _ _ rfl rfl
        obtain rfl : u = .string s := by simpa [RepA, RepD] using h0.1
        refine (callsIn_wide.1 (read_in Fence.wide 6 trivial trivial trivial trivial trivial rfl (Nat.le_refl _) s hs w)).mono fun e W' hh => ?_
        have key : ∀ u, Below w.heap.size w W' → (∃ us bs, u = retV us ∧ (∀ b ∈ bs, w.heap.size ≤ b ∧ ¬ I b) ∧ bs.Nodup ∧ RepResL Tryz.prog I W' (rtys Tryz.prog 23) (readR s) us bs) → CallPost Tryz.prog I w (rtys Tryz.prog 23) (readR s) u W' := fun u hB ⟨us, bs, h1, h2, h3, h4⟩ =>
          ⟨fun b hb => hB.block b hb, hB.size, hB.os, hB.tape, hB.output, I, us, bs, h1, fun _ h => h, fun _ h => .inl h, fun b hb => Nat.lt_of_lt_of_le (hI b hb) hB.size, h2, h3, h4⟩
        rcases hh with ⟨h1, rfl, hB⟩ | ⟨h1, v, rfl, hown, hB⟩
        · have hb : imgB s = false := by rw [Bool.eq_false_iff]; exact fun h => h1 ((imgB_iff s).1 h)
          refine ⟨_, rfl, key _ hB ⟨[.agg #[.slice none 0 0, .int .i64 0], .int .i64 7], [], rfl, by simp, List.nodup_nil, ?_⟩⟩
          unfold readR
          rw [hb, if_neg (by simp), rtys_23]
          simp only [RepResL, RepRes, isAggB_63, isAggB_36, if_true, Bool.false_eq_true, if_false]
          refine ⟨_, _, [], [], rfl, rfl, ⟨_, _, rfl, rfl, ?_⟩, _, _, [], [], rfl, rfl, ⟨rfl, by simp [RepD, Value.oneCell']⟩, rfl, rfl⟩
          simp only [tcs_63, RepHL]
          exact ⟨_, _, [], [], rfl, rfl, .inl ⟨rfl, rfl, rfl⟩, _, _, [], [], rfl, rfl, ⟨rfl, by simp [RepD, Value.oneCell']⟩, rfl, rfl⟩
        · have hb : imgB s = true := (imgB_iff s).2 h1
          have hv : ∃ bs, (∀ b ∈ bs, w.heap.size ≤ b ∧ ¬ I b) ∧ bs.Nodup ∧ RepH Tryz.prog I (fun _ => False) W' 44 (.vec 1 (rowW (codeOf s))) v bs := by
            obtain ⟨hl, ⟨rfl, h0⟩ | ⟨g, cap, cur, rfl, hb, hg, hc, hm, hs, ht⟩⟩ := hown
            · refine ⟨[], by simp, List.nodup_nil, .inl ⟨?_, rfl, rfl⟩⟩
              have : codeOf s = [] := List.eq_nil_of_length_eq_zero h0
              rw [this]; rfl
            · refine ⟨[g], fun b hbb => ?_, by simp, .inr ⟨g, cap, cur, (0, 0), 22, rfl, ?_, by simp, hg, fun j _ => by simp, by simpa using hs, ?_, hm, ?_, fun hi => by have := hI g hi; omega, fun h => h⟩⟩
              · rw [List.mem_singleton] at hbb; subst hbb
                exact ⟨hb, fun hi => by have := hI _ hi; omega⟩
              · simp [codeOf]
              · simpa [codeOf] using hc
              · have e : (rowW (codeOf s)).length * 1 = (wordsOf (s.extract 12 s.size)).length * 1 := by simp [codeOf]
                rw [e, ht]
                exact rows_words I W' _
          obtain ⟨bs, b1, b2, b3⟩ := hv
          refine ⟨_, rfl, key _ hB ⟨[.agg #[v, .int .i64 (wordAt s 8)], .int .i64 0], bs, rfl, b1, b2, ?_⟩⟩
          unfold readR
          rw [hb, if_pos rfl, rtys_23]
          simp only [RepResL, RepRes, isAggB_63, isAggB_36, if_true, Bool.false_eq_true, if_false]
          refine ⟨_, _, bs, [], rfl, by simp, ⟨_, _, rfl, rfl, ?_⟩, _, _, [], [], rfl, rfl, ⟨rfl, by simp [RepD, Value.oneCell']⟩, rfl, rfl⟩
          simp only [tcs_63, RepHL]
          exact ⟨_, _, bs, [], rfl, by simp, b3, _, _, [], [], rfl, rfl, ⟨rfl, by simp [RepD, Value.oneCell']⟩, rfl, rfl⟩
      · cases h
    · cases h
  · cases h
end Go.Proofs.YtdokejnokhicbaaGreatDoor

namespace Go.Proofs.YtdokejnokhicbaaGreatDoor
open Go Go.Ab
set_option linter.unusedSimpArgs false
set_option linter.unusedVariables false
def E47 : Cfg := ⟨fun t => t == 24 || t == 26, fun f => f == 68 || f == 69 || f == 76 || f == 86 || f == 89 || f == 98 || f == 100⟩
@[simp] theorem E47_hp (f : Nat) : E47.hp f = (f == 68 || f == 69 || f == 76 || f == 86 || f == 89 || f == 98 || f == 100) := rfl
@[simp] theorem E47_eq (f : Nat) : E47.eq f = (f == 24 || f == 26) := rfl
@[simp] theorem wrap_1 : IntKind.i64.wrap 1 = 1 := by decide +kernel
@[simp] theorem wrap_2 : IntKind.i64.wrap 2 = 2 := by decide +kernel
@[simp] theorem wrap_0 : IntKind.i64.wrap 0 = 0 := by decide +kernel
theorem wrapN {k : Nat} (h : k < 9223372036854775807) : IntKind.i64.wrap ((k : Int) + 1) = (k : Int) + 1 := wrap64 (by omega) (by omega)
/-- A word. -/
def U (n : Int) : Prop := 0 ≤ n ∧ n < 4294967296
/-- A word's bytes, the lowest first. -/
def b4 (w : Int) : List Int := [w % 256, w / 256 % 256, w / 65536 % 256, w / 16777216 % 256]
def bys (l : List Int) : List Int := l.flatMap b4
abbrev rowB (l : List Int) : List (List AV) := l.map fun x => [.sc (.int .u8 x)]
def toBytes (l : List Int) : List UInt8 := l.map fun x => UInt8.ofNat x.toNat
/-- The text of words. -/
def txtW (l : List Int) : ByteArray := ⟨⟨toBytes (bys l)⟩⟩
@[simp] theorem fd8 (w : Int) : w.fdiv (2 ^ min 8 IntKind.u32.bits) = w / 256 := by rw [show (2 : Int) ^ min 8 IntKind.u32.bits = 256 from by decide +kernel]; exact Int.fdiv_eq_ediv_of_nonneg _ (by omega)
@[simp] theorem fd16 (w : Int) : w.fdiv (2 ^ min 16 IntKind.u32.bits) = w / 65536 := by rw [show (2 : Int) ^ min 16 IntKind.u32.bits = 65536 from by decide +kernel]; exact Int.fdiv_eq_ediv_of_nonneg _ (by omega)
@[simp] theorem fd24 (w : Int) : w.fdiv (2 ^ min 24 IntKind.u32.bits) = w / 16777216 := by rw [show (2 : Int) ^ min 24 IntKind.u32.bits = 16777216 from by decide +kernel]; exact Int.fdiv_eq_ediv_of_nonneg _ (by omega)
theorem bytes_rowB : ∀ l : List Int, bytesOfRows (rowB l) = some (toBytes l)
  | [] => rfl
  | x :: l => by
    have := bytes_rowB l
    unfold rowB at this ⊢
    simp only [List.map_cons, bytesOfRows, this, Option.map_some, toBytes]
theorem bys_len : ∀ l : List Int, (bys l).length = 4 * l.length
  | [] => rfl
  | x :: l => by
    have := bys_len l
    unfold bys at this ⊢
    simp only [List.flatMap_cons, List.length_append, this, List.length_cons, b4, List.length_nil]; omega
theorem bys_snoc {l : List Int} {k : Nat} {w : Int} (h : l[k]? = some w) : bys (l.take k) ++ b4 w = bys (l.take (k + 1)) := by
  rw [List.take_add_one, h]
  unfold bys
  rw [List.flatMap_append]
  simp
set_option maxHeartbeats 1000000 in
theorem d25 (l : List Int) (data : Int)  : (lim Tryz.prog E47 X47).dat 42 [.agg [.sl false 1 (rowW l), iv data]] = some [bv (decide (l.length ≤ 16384) && decide (0 ≤ data) && decide (data ≤ 32768))] := by
  refine fnW Tryz.func42 rfl rfl bodyOk_42 rfl rtys_42 rfl ?_
  by_cases h1 : l.length ≤ 16384
  all_goals by_cases h2 : 0 ≤ data
  all_goals by_cases h3 : data ≤ 32768
  all_goals first
    | have n1 : (l.length : Int) ≤ 16384 := by omega
    | have n1 : ¬ (l.length : Int) ≤ 16384 := by omega
  all_goals
    repeat' (first
      | ((with_reducible first | apply Wo_u | apply Wo_n | apply ex2 | apply W_sc | apply W_c | apply Wd_u | apply Wd_n | apply ex4 | apply EndQ_ret | apply EndQ_normal); (conv => lhs; simp -implicitDefEqProofs [*]) <;> exact rfl)
      | (with_reducible first | apply Wo_nil | apply W_ss | apply W_srl | apply W_rl | apply W_sblock | apply W_block | apply W_sskip | apply W_skip | apply W_sret | apply W_ret | apply W_sexit | apply W_exit | apply thenW_n | apply thenW_r | apply thenW_e | apply inB_n | apply inB_r | apply inB_e)
      | ((with_reducible apply Wo_gt); (exact rfl); ((conv => lhs; simp -implicitDefEqProofs [*]) <;> exact rfl); (conv => lhs; simp -implicitDefEqProofs [*]) <;> exact rfl)
      | ((with_reducible apply Wo_gf); (exact rfl); ((conv => lhs; simp -implicitDefEqProofs [*]) <;> exact rfl); (exact rfl))
      | ((with_reducible apply Wo_gx); (exact rfl); ((conv => lhs; simp -implicitDefEqProofs [*]) <;> exact rfl))
      | ((with_reducible apply Wo_gsT); (exact rfl); ((conv => lhs; simp -implicitDefEqProofs [*]) <;> exact rfl))
      | ((with_reducible apply Wo_gsF); (exact rfl); ((conv => lhs; simp -implicitDefEqProofs [*]) <;> exact rfl))
      | ((with_reducible apply Wd_gsT); (exact rfl); ((conv => lhs; simp -implicitDefEqProofs [*]) <;> exact rfl))
      | ((with_reducible apply Wd_gsF); (exact rfl); ((conv => lhs; simp -implicitDefEqProofs [*]) <;> exact rfl))
      | ((with_reducible first | apply W_srdl | apply W_rdl); kernel_rfl)
      | ((with_reducible apply Wd_nil); exact rfl)
      | ((with_reducible apply inB_o); rotate_left; exact rfl)
      | (intro h h'; try simp [*, -h] at h'))
  all_goals simp [*]
set_option maxHeartbeats 1000000 in
theorem d26 (l : List Int) (hl : l.length ≤ 1048576) (hU : ∀ x ∈ l, U x) : (lim Tryz.prog E47 X47).dat 28 [.sl false 1 (rowW l)] = some [.sc (.string (txtW l))] := by
  refine fnW Tryz.func28 rfl rfl bodyOk_28 rfl rtys_28 rfl ?_
  have hm : IntKind.i64.wrap (4 * (l.length : Int)) = 4 * (l.length : Int) := wrap64 (by omega) (by omega)
  have m0 : (0 : Int) ≤ 4 * (l.length : Int) := by omega
  have m1 : 4 * (l.length : Int) ≤ 9223372036854775807 := by omega
  have m2 : 4 * (l.length : Int) ≤ 140737488355328 := by omega
  repeat' (first
    | ((with_reducible first | apply Wo_u | apply Wo_n | apply ex2 | apply W_sc | apply W_c | apply Wd_u | apply Wd_n | apply ex4 | apply EndQ_ret | apply EndQ_normal); (conv => lhs; simp -implicitDefEqProofs [*]) <;> exact rfl)
    | (with_reducible first | apply Wo_nil | apply W_ss | apply W_srl | apply W_rl | apply W_sblock | apply W_block | apply W_sskip | apply W_skip | apply W_sret | apply W_ret | apply W_sexit | apply W_exit | apply thenW_n | apply thenW_r | apply thenW_e | apply inB_n | apply inB_r | apply inB_e)
    | ((with_reducible apply Wo_gt); (exact rfl); ((conv => lhs; simp -implicitDefEqProofs [*]) <;> exact rfl); (conv => lhs; simp -implicitDefEqProofs [*]) <;> exact rfl)
    | ((with_reducible apply Wo_gf); (exact rfl); ((conv => lhs; simp -implicitDefEqProofs [*]) <;> exact rfl); (exact rfl))
    | ((with_reducible apply Wo_gx); (exact rfl); ((conv => lhs; simp -implicitDefEqProofs [*]) <;> exact rfl))
    | ((with_reducible apply Wo_gsT); (exact rfl); ((conv => lhs; simp -implicitDefEqProofs [*]) <;> exact rfl))
    | ((with_reducible apply Wo_gsF); (exact rfl); ((conv => lhs; simp -implicitDefEqProofs [*]) <;> exact rfl))
    | ((with_reducible apply Wd_gsT); (exact rfl); ((conv => lhs; simp -implicitDefEqProofs [*]) <;> exact rfl))
    | ((with_reducible apply Wd_gsF); (exact rfl); ((conv => lhs; simp -implicitDefEqProofs [*]) <;> exact rfl))
    | ((with_reducible first | apply W_srdl | apply W_rdl); kernel_rfl)
    | ((with_reducible apply Wd_nil); exact rfl)
    | ((with_reducible apply inB_o); rotate_left; exact rfl)
    | (intro h h'; try simp [*, -h] at h'))
  refine W_loopS (n := l.length) (fun s0 m s => ∃ k g : Nat, m = l.length - k ∧ k ≤ l.length ∧ s.fr 12 = iv k ∧ s.fr 3 = .own ⟨0, 9, 0⟩ g (4 * k) ∧ s.fr 10 = s0.fr 10 ∧ s.fr 11 = s0.fr 11 ∧ s.hp ⟨0, 9, 0⟩ = .arr g 1 5 (rowB (bys (l.take k))) false) ⟨0, 1, by simp, by omega, by simp, by simp, by simp, by simp, by simp [bys]⟩ ?_
  rintro m ⟨fr, hp⟩ ⟨k, g, rfl, hk, hs12, hs3, hs10, hs11, hh9⟩
  simp at hs12 hs3 hs10 hs11 hh9
  by_cases hlt : k < l.length
  · have hg := List.getElem?_eq_getElem hlt
    have hw := wrapN (k := k) (by omega)
    have e0 : IntKind.u8.wrap l[k] = l[k] % 256 := IntKind.wrap_u8 _
    have e1 : IntKind.u8.wrap (l[k] / 256) = l[k] / 256 % 256 := IntKind.wrap_u8 _
    have e2 : IntKind.u8.wrap (l[k] / 65536) = l[k] / 65536 % 256 := IntKind.wrap_u8 _
    have e3 : IntKind.u8.wrap (l[k] / 16777216) = l[k] / 16777216 % 256 := IntKind.wrap_u8 _
    have hbl : (bys (l.take k)).length = 4 * k := by rw [bys_len, List.length_take]; omega
    have hap : rowB (bys (l.take k)) ++ [[.sc (.int .u8 (l[k] % 256))], [.sc (.int .u8 (l[k] / 256 % 256))], [.sc (.int .u8 (l[k] / 65536 % 256))], [.sc (.int .u8 (l[k] / 16777216 % 256))]] = rowB (bys (l.take (k + 1))) := by
      rw [← bys_snoc hg]; simp [b4]
    have b1 : 4 * k ≤ 140737488355324 := by omega
    have b2 : 4 * k ≤ 9223372036854775803 := by omega
    repeat' (first
      | ((with_reducible first | apply Wo_u | apply Wo_n | apply ex2 | apply W_sc | apply W_c | apply Wd_u | apply Wd_n | apply ex4 | apply EndQ_ret | apply EndQ_normal); (conv => lhs; simp -implicitDefEqProofs [*]) <;> exact rfl)
      | (with_reducible first | apply Wo_nil | apply W_ss | apply W_srl | apply W_rl | apply W_sblock | apply W_block | apply W_sskip | apply W_skip | apply W_sret | apply W_ret | apply W_sexit | apply W_exit | apply thenW_n | apply thenW_r | apply thenW_e | apply inB_n | apply inB_r | apply inB_e)
      | ((with_reducible apply Wo_gt); (exact rfl); ((conv => lhs; simp -implicitDefEqProofs [*]) <;> exact rfl); (conv => lhs; simp -implicitDefEqProofs [*]) <;> exact rfl)
      | ((with_reducible apply Wo_gf); (exact rfl); ((conv => lhs; simp -implicitDefEqProofs [*]) <;> exact rfl); (exact rfl))
      | ((with_reducible apply Wo_gx); (exact rfl); ((conv => lhs; simp -implicitDefEqProofs [*]) <;> exact rfl))
      | ((with_reducible apply Wo_gsT); (exact rfl); ((conv => lhs; simp -implicitDefEqProofs [*]) <;> exact rfl))
      | ((with_reducible apply Wo_gsF); (exact rfl); ((conv => lhs; simp -implicitDefEqProofs [*]) <;> exact rfl))
      | ((with_reducible apply Wd_gsT); (exact rfl); ((conv => lhs; simp -implicitDefEqProofs [*]) <;> exact rfl))
      | ((with_reducible apply Wd_gsF); (exact rfl); ((conv => lhs; simp -implicitDefEqProofs [*]) <;> exact rfl))
      | ((with_reducible first | apply W_srdl | apply W_rdl); kernel_rfl)
      | ((with_reducible apply Wd_nil); exact rfl)
      | ((with_reducible apply inB_o); rotate_left; exact rfl)
      | (intro h h'; try simp [*, -h] at h'))
    exact ⟨_, by omega, k + 1, g + 1, rfl, hlt, by simp, by simp [Nat.mul_add], by simp [*], by simp [*], by simp [*]⟩
  · obtain rfl : k = l.length := by omega
    have hta : l.take l.length = l := List.take_of_length_le (Nat.le_refl _)
    have hbl : (bys l).length = 4 * l.length := bys_len l
    have htk : (rowB (bys l)).take (4 * l.length) = rowB (bys l) := List.take_of_length_le (by simp [hbl])
    have hbr := bytes_rowB (bys l)
    rw [hta] at hh9
    repeat' (first
      | ((with_reducible first | apply Wo_u | apply Wo_n | apply ex2 | apply W_sc | apply W_c | apply Wd_u | apply Wd_n | apply ex4 | apply EndQ_ret | apply EndQ_normal); (conv => lhs; simp -implicitDefEqProofs [*]) <;> exact rfl)
      | (with_reducible first | apply Wo_nil | apply W_ss | apply W_srl | apply W_rl | apply W_sblock | apply W_block | apply W_sskip | apply W_skip | apply W_sret | apply W_ret | apply W_sexit | apply W_exit | apply thenW_n | apply thenW_r | apply thenW_e | apply inB_n | apply inB_r | apply inB_e)
      | ((with_reducible apply Wo_gt); (exact rfl); ((conv => lhs; simp -implicitDefEqProofs [*]) <;> exact rfl); (conv => lhs; simp -implicitDefEqProofs [*]) <;> exact rfl)
      | ((with_reducible apply Wo_gf); (exact rfl); ((conv => lhs; simp -implicitDefEqProofs [*]) <;> exact rfl); (exact rfl))
      | ((with_reducible apply Wo_gx); (exact rfl); ((conv => lhs; simp -implicitDefEqProofs [*]) <;> exact rfl))
      | ((with_reducible apply Wo_gsT); (exact rfl); ((conv => lhs; simp -implicitDefEqProofs [*]) <;> exact rfl))
      | ((with_reducible apply Wo_gsF); (exact rfl); ((conv => lhs; simp -implicitDefEqProofs [*]) <;> exact rfl))
      | ((with_reducible apply Wd_gsT); (exact rfl); ((conv => lhs; simp -implicitDefEqProofs [*]) <;> exact rfl))
      | ((with_reducible apply Wd_gsF); (exact rfl); ((conv => lhs; simp -implicitDefEqProofs [*]) <;> exact rfl))
      | ((with_reducible first | apply W_srdl | apply W_rdl); kernel_rfl)
      | ((with_reducible apply Wd_nil); exact rfl)
      | ((with_reducible apply inB_o); rotate_left; exact rfl)
      | (intro h h'; try simp [*, -h] at h'))
    rfl
end Go.Proofs.YtdokejnokhicbaaGreatDoor

namespace Go.Proofs.YtdokejnokhicbaaGreatDoor
open Go Go.Ab
set_option linter.unusedSimpArgs false
set_option linter.unusedVariables false
end Go.Proofs.YtdokejnokhicbaaGreatDoor

namespace Go.Proofs.YtdokejnokhicbaaGreatDoor
open Go Go.Ab
set_option linter.unusedSimpArgs false
set_option linter.unusedVariables false
/-- An image's bytes. -/
def txtI (l : List Int) (data : Int) : ByteArray := ⟨#[83, 69, 69, 68]⟩ ++ txtW [(l.length : Int), data] ++ txtW l
theorem txtW_size (l : List Int) : (txtW l).size = 4 * l.length := by
  show (toBytes (bys l)).toArray.size = _
  simp [toBytes, bys_len]
set_option maxHeartbeats 4000000 in
theorem d19 (l : List Int) (data : Int) (hl : l.length ≤ 16384) (hd : 0 ≤ data ∧ data ≤ 32768) (hU : ∀ x ∈ l, U x) : (lim Tryz.prog E47 X47).dat 22 [.agg [.sl false 1 (rowW l), iv data]] = some [.sc (.string (txtI l data)), iv 0] := by
  refine fnW Tryz.func22 rfl rfl bodyOk_22 rfl rtys_22 rfl ?_
  have h25 := d25 l data
  rw [show (decide (l.length ≤ 16384) && decide (0 ≤ data) && decide (data ≤ 32768)) = true from by simp [hl, hd]] at h25
  have w1 : IntKind.u32.wrap (l.length : Int) = l.length := by rw [IntKind.wrap_u32]; omega
  have w2 : IntKind.u32.wrap data = data := by rw [IntKind.wrap_u32]; omega
  have h26 := d26 [(l.length : Int), data] (by simp) (by
    intro x hx
    simp only [List.mem_cons, List.not_mem_nil, or_false] at hx
    unfold U
    rcases hx with rfl | rfl <;> omega)
  simp only [List.map_cons, List.map_nil] at h26
  have h26b := d26 l (by omega) hU
  have z1 := txtW_size [(l.length : Int), data]
  have z2 := txtW_size l
  simp only [List.length_cons, List.length_nil] at z1
  generalize hA : txtW [(l.length : Int), data] = A at h26 z1
  generalize hB : txtW l = B at h26b z2
  have z3 : 4 + A.size ≤ 9223372036854775807 := by omega
  have z4 : (⟨#[83, 69, 69, 68]⟩ ++ A : ByteArray).size + B.size ≤ 9223372036854775807 := by rw [ByteArray.size_append, z1, z2]; show 4 + _ + _ ≤ _; omega
  have z5 : 4 + A.size + B.size ≤ 9223372036854775807 := by omega
  have hT : txtI l data = ⟨#[83, 69, 69, 68]⟩ ++ A ++ B := by rw [← hA, ← hB]; rfl
  have z6 : (⟨#[83, 69, 69, 68]⟩ : ByteArray).size + 8 + 4 * l.length ≤ 9223372036854775807 := by show 4 + 8 + 4 * l.length ≤ _; omega
  have z7 : (⟨#[83, 69, 69, 68]⟩ : ByteArray).size + 8 ≤ 9223372036854775807 := by show 4 + 8 ≤ _; omega
  clear hU hl hd
  repeat' (first
    | ((with_reducible first | apply Wo_u | apply Wo_n | apply ex2 | apply W_sc | apply W_c | apply Wd_u | apply Wd_n | apply ex4 | apply EndQ_ret | apply EndQ_normal); (conv => lhs; simp -implicitDefEqProofs [*]) <;> exact rfl)
    | (with_reducible first | apply Wo_nil | apply W_ss | apply W_srl | apply W_rl | apply W_sblock | apply W_block | apply W_sskip | apply W_skip | apply W_sret | apply W_ret | apply W_sexit | apply W_exit | apply thenW_n | apply thenW_r | apply thenW_e | apply inB_n | apply inB_r | apply inB_e)
    | ((with_reducible apply Wo_gt); (exact rfl); ((conv => lhs; simp -implicitDefEqProofs [*]) <;> exact rfl); (conv => lhs; simp -implicitDefEqProofs [*]) <;> exact rfl)
    | ((with_reducible apply Wo_gf); (exact rfl); ((conv => lhs; simp -implicitDefEqProofs [*]) <;> exact rfl); (exact rfl))
    | ((with_reducible apply Wo_gx); (exact rfl); ((conv => lhs; simp -implicitDefEqProofs [*]) <;> exact rfl))
    | ((with_reducible apply Wo_gsT); (exact rfl); ((conv => lhs; simp -implicitDefEqProofs [*]) <;> exact rfl))
    | ((with_reducible apply Wo_gsF); (exact rfl); ((conv => lhs; simp -implicitDefEqProofs [*]) <;> exact rfl))
    | ((with_reducible apply Wd_gsT); (exact rfl); ((conv => lhs; simp -implicitDefEqProofs [*]) <;> exact rfl))
    | ((with_reducible apply Wd_gsF); (exact rfl); ((conv => lhs; simp -implicitDefEqProofs [*]) <;> exact rfl))
    | ((with_reducible first | apply W_srdl | apply W_rdl); kernel_rfl)
    | ((with_reducible apply Wd_nil); exact rfl)
    | ((with_reducible apply inB_o); rotate_left; exact rfl)
    | (intro h h'; try simp [*, -h] at h'))
  all_goals simp [*]
end Go.Proofs.YtdokejnokhicbaaGreatDoor
