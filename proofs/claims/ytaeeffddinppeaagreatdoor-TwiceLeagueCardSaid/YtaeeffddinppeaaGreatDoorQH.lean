/- Words and images as bytes, walked. -/
import Derived.Test.YtaeeffddinppeaaGreatDoorQG
import Derived.Test.YtaeeffddinppeaaGreatDoorQF
import Derived.Test.YtaeeffddinppeaaGreatDoorQE
set_option linter.unusedSimpArgs false
set_option linter.unusedVariables false
namespace Go.Proofs.YtaeeffddinppeaaGreatDoor
open Go Go.Ab Go.RowKit
def imgB (s : ByteArray) : Bool := decide (12 ≤ s.size) && decide (s.extract 0 4 = ⟨#[83, 69, 69, 68]⟩) && decide (s.size ≤ 65548) && decide (wordAt s 8 ≤ 32768) && decide ((s.size : Int) = 12 + 4 * wordAt s 4)
theorem imgB_iff (s : ByteArray) : imgB s = true ↔ isImg s := by
  unfold imgB isImg
  simp only [Bool.and_eq_true, decide_eq_true_eq]
  exact ⟨fun ⟨⟨⟨⟨a, b⟩, c⟩, d⟩, e⟩ => ⟨a, b, c, d, e⟩, fun ⟨a, b, c, d, e⟩ => ⟨⟨⟨⟨a, b⟩, c⟩, d⟩, e⟩⟩
def codeOf (s : ByteArray) : List Int := wordsOf (s.extract 12 s.size)
def readR (s : ByteArray) : List AV := if imgB s then [.agg [.vec 1 (rowW (codeOf s)), iv (wordAt s 8)], iv 0] else [.agg [.vec 1 [], iv 0], iv 7]
def readO : List AV → Option (List AV)
  | [.sc (.string s)] => if s.size ≤ 1048576 then some (readR s) else none
  | _ => none
def unW : List (List AV) → Option (List Int)
  | [] => some []
  | [.sc (.int .u32 x)] :: r => (unW r).map (x :: ·)
  | _ => none
theorem unW_row : ∀ l : List Int, unW (rowW l) = some l
  | [] => rfl
  | x :: l => by show (unW (rowW l)).map (x :: ·) = _; rw [unW_row l]; rfl
theorem row_unW : ∀ {rows : List (List AV)} {l : List Int}, unW rows = some l → rows = rowW l
  | [], l, h => by cases h; rfl
  | r :: rows, l, h => by
    unfold unW at h
    split at h
    · rename_i heq; cases heq
    · rename_i x r' heq
      cases heq
      cases hr : unW rows with
      | none => rw [hr] at h; cases h
      | some l' =>
        rw [hr] at h
        cases h
        rw [row_unW hr]
        rfl
    · cases h
def isI (n : Int) : AV → Bool
  | .sc (.int .i64 m) => m == n
  | _ => false
def isU (n : Int) : AV → Bool
  | .sc (.int .u32 m) => m == n
  | _ => false
def isE : AV → Bool
  | .sc (.string s) => decide (s = ⟨#[]⟩)
  | _ => false
theorem isI_eq {n : Int} {a : AV} (h : isI n a = true) : a = iv n := by
  unfold isI at h
  split at h
  · simp at h; rw [h]
  · cases h
theorem isU_eq {n : Int} {a : AV} (h : isU n a = true) : a = uv n := by
  unfold isU at h
  split at h
  · simp at h; rw [h]
  · cases h
theorem isE_eq {a : AV} (h : isE a = true) : a = .sc (.string ⟨#[]⟩) := by
  unfold isE at h
  split at h
  · simp at h; rw [h]
  · cases h
def unS : List AV → Option (List Int)
  | [p, a0, a1, a2, a3, a4, a5, a6, a7, a8, a9, a10, a11, a12, a13, a14, a15, .sl false 1 m, r, o, s, e] =>
    if isI 0 p && isU 0 a0 && isU 0 a1 && isU 0 a2 && isU 0 a3 && isU 0 a4 && isU 0 a5 && isU 0 a6 && isU 0 a7 && isU 0 a8 && isU 0 a9 && isU 0 a10 && isU 0 a11 && isU 0 a12 && isU 0 a13 && isU 0 a14 && isU 0 a15 && isI 0 r && isE o && isI 0 s && isI 0 e then unW m else none
  | _ => none
theorem unS_eq {st : List AV} {mem : List Int} (h : unS st = some mem) : st = stA mem := by
  unfold unS at h
  split at h
  · split at h
    · rename_i hc
      simp only [Bool.and_eq_true] at hc
      obtain ⟨⟨⟨⟨⟨⟨⟨⟨⟨⟨⟨⟨⟨⟨⟨⟨⟨⟨⟨⟨h1, h2⟩, h3⟩, h4⟩, h5⟩, h6⟩, h7⟩, h8⟩, h9⟩, h10⟩, h11⟩, h12⟩, h13⟩, h14⟩, h15⟩, h16⟩, h17⟩, h18⟩, h19⟩, h20⟩, h21⟩ := hc
      rw [isI_eq h1, isU_eq h2, isU_eq h3, isU_eq h4, isU_eq h5, isU_eq h6, isU_eq h7, isU_eq h8, isU_eq h9, isU_eq h10, isU_eq h11, isU_eq h12, isU_eq h13, isU_eq h14, isU_eq h15, isU_eq h16, isU_eq h17, isI_eq h18, isE_eq h19, isI_eq h20, isI_eq h21, row_unW h]
      rfl
    · cases h
  · cases h
theorem unS_st (mem : List Int) : unS (stA mem) = some mem := by
  unfold unS stA
  simp [isI, isU, isE, unW_row, iv, uv]
def allU (l : List Int) : Bool := l.all fun x => decide (0 ≤ x) && decide (x < 4294967296)
theorem allU_iff (l : List Int) : allU l = true ↔ ∀ x ∈ l, Ma.U x := by
  unfold allU Ma.U
  simp
def goO : List AV → Option (List AV)
  | [.agg [.sl false 1 rows, .sc (.int .i64 _)], .sc (.string inp), .agg st, .sc (.int .i64 fuel)] => match unW rows, unS st with
    | some code, some mem => if allU code && allU mem && decide (mem.length ≤ 1048576) && decide (inp.size ≤ 1048576) && decide (code.length ≤ 1048576) && decide (fuel ≤ 4611686018427387904) then some [resS (Ma.runP code (inpF inp) fuel.toNat (startM mem))] else none
    | _, _ => none
  | _ => none
theorem goO_eq {code mem : List Int} {inp : ByteArray} {data fuel : Int} (hcU : ∀ x ∈ code, Ma.U x) (hmU : ∀ x ∈ mem, Ma.U x) (hml : mem.length ≤ 1048576) (hil : inp.size ≤ 1048576) (hcl : code.length ≤ 1048576) (hf : fuel ≤ 4611686018427387904) :
    goO [.agg [.sl false 1 (rowW code), iv data], .sc (.string inp), .agg (stA mem), iv fuel] = some [resS (Ma.runP code (inpF inp) fuel.toNat (startM mem))] := by
  simp only [goO, unW_row, unS_st]
  rw [if_pos]
  simp [(allU_iff code).2 hcU, (allU_iff mem).2 hmU, hml, hil, hcl, hf]
def X47 : Orc := ⟨fun f args => if f = 63 then readO args else if f = 155 then goO args else none, fun _ _ _ _ _ => none⟩
theorem rows_words (I : Nat → Prop) (w : World) : ∀ l : List Int, RepRows I w 1 (rowW l) (l.map (Value.int .u32))
  | [] => by simp [RepRows]
  | x :: l => by
    simp only [List.map_cons, RepRows]
    exact ⟨[.int .u32 x], l.map (Value.int .u32), rfl, rfl, by simp [RepDL, RepD, Value.oneCell'], rows_words I w l⟩
set_option maxRecDepth 200000 in
theorem X47_ok : OrcOk Tryz.prog X47 := by
  refine ⟨fun f args rs h hok I w us hI hgl ha => ?_, fun k d f args hp v hp' h => by simp [X47] at h⟩
  simp only [X47] at h
  split at h
  · rename_i hf
    subst hf
    unfold readO at h
    split at h
    · rename_i s
      split at h
      · rename_i hs
        cases h
        obtain ⟨u, rfl⟩ : ∃ u, us = [u] := by
          have := ha.1
          match us, this with
          | [u], _ => exact ⟨u, rfl⟩
        have h0 := ha.2 0 _ _ rfl rfl
        obtain rfl : u = .string s := by simpa [RepA, RepD] using h0.1
        refine (callsIn_wide.1 (read_in Fence.wide 6 trivial trivial trivial trivial trivial rfl (Nat.le_refl _) s hs w)).mono fun e W' hh => ?_
        have key : ∀ u, Below w.heap.size w W' → (∃ us bs, u = retV us ∧ (∀ b ∈ bs, w.heap.size ≤ b ∧ ¬ I b) ∧ bs.Nodup ∧ RepResL Tryz.prog I W' (rtys Tryz.prog 63) (readR s) us bs) → CallPost Tryz.prog I w (rtys Tryz.prog 63) (readR s) u W' := fun u hB ⟨us, bs, h1, h2, h3, h4⟩ =>
          ⟨fun b hb => hB.block b hb, hB.size, hB.os, hB.tape, hB.output, I, us, bs, h1, fun _ h => h, fun _ h => .inl h, fun b hb => Nat.lt_of_lt_of_le (hI b hb) hB.size, h2, h3, h4⟩
        rcases hh with ⟨h1, rfl, hB⟩ | ⟨h1, v, rfl, hown, hB⟩
        · have hb : imgB s = false := by rw [Bool.eq_false_iff]; exact fun h => h1 ((imgB_iff s).1 h)
          refine ⟨_, rfl, key _ hB ⟨[.agg #[.slice none 0 0, .int .i64 0], .int .i64 7], [], rfl, by simp, List.nodup_nil, ?_⟩⟩
          unfold readR
          rw [hb, if_neg (by simp), rtys_63]
          simp only [RepResL, RepRes, isAggB_28, isAggB_24, if_true, Bool.false_eq_true, if_false]
          refine ⟨_, _, [], [], rfl, rfl, ⟨_, _, rfl, rfl, ?_⟩, _, _, [], [], rfl, rfl, ⟨rfl, by simp [RepD, Value.oneCell']⟩, rfl, rfl⟩
          simp only [tcs_28, RepHL]
          exact ⟨_, _, [], [], rfl, rfl, .inl ⟨rfl, rfl, rfl⟩, _, _, [], [], rfl, rfl, ⟨rfl, by simp [RepD, Value.oneCell']⟩, rfl, rfl⟩
        · have hb : imgB s = true := (imgB_iff s).2 h1
          have hv : ∃ bs, (∀ b ∈ bs, w.heap.size ≤ b ∧ ¬ I b) ∧ bs.Nodup ∧ RepH Tryz.prog I (fun _ => False) W' 22 (.vec 1 (rowW (codeOf s))) v bs := by
            obtain ⟨hl, ⟨rfl, h0⟩ | ⟨g, cap, cur, rfl, hb, hg, hc, hm, hs, ht⟩⟩ := hown
            · refine ⟨[], by simp, List.nodup_nil, .inl ⟨?_, rfl, rfl⟩⟩
              have : codeOf s = [] := List.eq_nil_of_length_eq_zero h0
              rw [this]; rfl
            · refine ⟨[g], fun b hbb => ?_, by simp, .inr ⟨g, cap, cur, (0, 0), 32, rfl, ?_, by simp, hg, fun j _ => by simp, by simpa using hs, ?_, hm, ?_, fun hi => by have := hI g hi; omega, fun h => h⟩⟩
              · rw [List.mem_singleton] at hbb; subst hbb
                exact ⟨hb, fun hi => by have := hI _ hi; omega⟩
              · simp [codeOf]
              · simpa [codeOf] using hc
              · have e : (rowW (codeOf s)).length * 1 = (wordsOf (s.extract 12 s.size)).length * 1 := by simp [codeOf]
                rw [e, ht]
                exact rows_words I W' _
          obtain ⟨bs, b1, b2, b3⟩ := hv
          refine ⟨_, rfl, key _ hB ⟨[.agg #[v, .int .i64 (wordAt s 8)], .int .i64 0], bs, rfl, b1, b2, ?_⟩⟩
          unfold readR
          rw [hb, if_pos rfl, rtys_63]
          simp only [RepResL, RepRes, isAggB_28, isAggB_24, if_true, Bool.false_eq_true, if_false]
          refine ⟨_, _, bs, [], rfl, by simp, ⟨_, _, rfl, rfl, ?_⟩, _, _, [], [], rfl, rfl, ⟨rfl, by simp [RepD, Value.oneCell']⟩, rfl, rfl⟩
          simp only [tcs_28, RepHL]
          exact ⟨_, _, bs, [], rfl, by simp, b3, _, _, [], [], rfl, rfl, ⟨rfl, by simp [RepD, Value.oneCell']⟩, rfl, rfl⟩
      · cases h
    · cases h
  · split at h
    · rename_i hf
      subst hf
      unfold goO at h
      split at h
      · rename_i rows data inp st fuel
        split at h
        · rename_i code mem h1 h2
          split at h
          · rename_i hc
            cases h
            simp only [Bool.and_eq_true, decide_eq_true_eq] at hc
            obtain ⟨⟨⟨⟨⟨c1, c2⟩, c3⟩, c4⟩, c5⟩, c6⟩ := hc
            rw [row_unW h1, unS_eq h2] at ha
            exact go_calls ((allU_iff code).1 c1) ((allU_iff mem).1 c2) c3 c4 c5 c6 hI hgl ha
          · cases h
        · cases h
      · cases h
    · cases h
end Go.Proofs.YtaeeffddinppeaaGreatDoor

namespace Go.Proofs.YtaeeffddinppeaaGreatDoor
open Go Go.Ab
def E47 : Cfg := ⟨fun t => t == 34 || t == 44 || t == 53, fun f => f == 162 || f == 215 || f == 217, fun _ => false⟩
@[simp] theorem E47_hp (f : Nat) : E47.hp f = (f == 162 || f == 215 || f == 217) := rfl
@[simp] theorem E47_eq (f : Nat) : E47.eq f = (f == 34 || f == 44 || f == 53) := rfl
def U (n : Int) : Prop := 0 ≤ n ∧ n < 4294967296
def b4 (w : Int) : List Int := [w % 256, w / 256 % 256, w / 65536 % 256, w / 16777216 % 256]
def bys (l : List Int) : List Int := l.flatMap b4
def txtW (l : List Int) : ByteArray := ⟨⟨toBytes (bys l)⟩⟩
@[simp] theorem fd8 (w : Int) : w.fdiv (2 ^ min 8 IntKind.u32.bits) = w / 256 := by rw [show (2 : Int) ^ min 8 IntKind.u32.bits = 256 from by decide +kernel]; exact Int.fdiv_eq_ediv_of_nonneg _ (by omega)
@[simp] theorem fd16 (w : Int) : w.fdiv (2 ^ min 16 IntKind.u32.bits) = w / 65536 := by rw [show (2 : Int) ^ min 16 IntKind.u32.bits = 65536 from by decide +kernel]; exact Int.fdiv_eq_ediv_of_nonneg _ (by omega)
@[simp] theorem fd24 (w : Int) : w.fdiv (2 ^ min 24 IntKind.u32.bits) = w / 16777216 := by rw [show (2 : Int) ^ min 24 IntKind.u32.bits = 16777216 from by decide +kernel]; exact Int.fdiv_eq_ediv_of_nonneg _ (by omega)
theorem bys_len : ∀ l : List Int, (bys l).length = 4 * l.length
  | [] => rfl
  | x :: l => by
    have := bys_len l
    unfold bys at this ⊢
    simp only [List.flatMap_cons, List.length_append, this, List.length_cons, b4, List.length_nil]; omega
theorem bys_snoc {l : List Int} {k : Nat} {w : Int} (h : l[k]? = some w) : bys (l.take k) ++ b4 w = bys (l.take (k + 1)) := by
  rw [List.take_add_one, h]
  unfold bys
  rw [List.flatMap_append]
  simp
set_option maxHeartbeats 1000000 in
theorem d25 (l : List Int) (data : Int)  : (lim Tryz.prog E47 X47).dat 65 [.agg [.sl false 1 (rowW l), iv data]] = some [bv (decide (l.length ≤ 16384) && decide (0 ≤ data) && decide (data ≤ 32768))] := by
  refine fnW Tryz.func65 rfl rfl bodyOk_65 rfl rtys_65 rfl ?_
  by_cases h1 : l.length ≤ 16384
  all_goals by_cases h2 : 0 ≤ data
  all_goals by_cases h3 : data ≤ 32768
  all_goals first
    | have n1 : (l.length : Int) ≤ 16384 := by omega
    | have n1 : ¬ (l.length : Int) ≤ 16384 := by omega
  all_goals
    repeat' (first
      | ((with_reducible first | apply Wo_u | apply Wo_n | apply ex2 | apply W_sc | apply W_c | apply Wd_u | apply Wd_n | apply ex4 | apply EndQ_ret | apply EndQ_normal); (conv => lhs; simp -implicitDefEqProofs [*]) <;> exact rfl)
      | (with_reducible first | apply Wo_nil | apply W_ss | apply W_srl | apply W_rl | apply W_sblock | apply W_block | apply W_sskip | apply W_skip | apply W_sret | apply W_ret | apply W_sexit | apply W_exit | apply thenW_n | apply thenW_r | apply thenW_e | apply inB_n | apply inB_r | apply inB_e)
      | ((with_reducible apply Wo_gt); (exact rfl); ((conv => lhs; simp -implicitDefEqProofs [*]) <;> exact rfl); (conv => lhs; simp -implicitDefEqProofs [*]) <;> exact rfl)
      | ((with_reducible apply Wo_gf); (exact rfl); ((conv => lhs; simp -implicitDefEqProofs [*]) <;> exact rfl); (exact rfl))
      | ((with_reducible apply Wo_gx); (exact rfl); ((conv => lhs; simp -implicitDefEqProofs [*]) <;> exact rfl))
      | ((with_reducible apply Wo_gsT); (exact rfl); ((conv => lhs; simp -implicitDefEqProofs [*]) <;> exact rfl))
      | ((with_reducible apply Wo_gsF); (exact rfl); ((conv => lhs; simp -implicitDefEqProofs [*]) <;> exact rfl))
      | ((with_reducible apply Wd_gsT); (exact rfl); ((conv => lhs; simp -implicitDefEqProofs [*]) <;> exact rfl))
      | ((with_reducible apply Wd_gsF); (exact rfl); ((conv => lhs; simp -implicitDefEqProofs [*]) <;> exact rfl))
      | ((with_reducible first | apply W_srdl | apply W_rdl); kernel_rfl)
      | ((with_reducible apply Wd_nil); exact rfl)
      | ((with_reducible apply inB_o); rotate_left; exact rfl)
      | (intro h h'; try simp [*, -h] at h'))
  all_goals simp [*]
set_option maxHeartbeats 1000000 in
theorem d26 (l : List Int) (hl : l.length ≤ 1048576) (hU : ∀ x ∈ l, U x) : (lim Tryz.prog E47 X47).dat 46 [.sl false 1 (rowW l)] = some [.sc (.string (txtW l))] := by
  refine fnW Tryz.func46 rfl rfl bodyOk_46 rfl rtys_46 rfl ?_
  have hm : IntKind.i64.wrap (4 * (l.length : Int)) = 4 * (l.length : Int) := wrap64 (by omega) (by omega)
  have m0 : (0 : Int) ≤ 4 * (l.length : Int) := by omega
  have m1 : 4 * (l.length : Int) ≤ 9223372036854775807 := by omega
  have m2 : 4 * (l.length : Int) ≤ 140737488355328 := by omega
  repeat' (first
    | ((with_reducible first | apply Wo_u | apply Wo_n | apply ex2 | apply W_sc | apply W_c | apply Wd_u | apply Wd_n | apply ex4 | apply EndQ_ret | apply EndQ_normal); (conv => lhs; simp -implicitDefEqProofs [*]) <;> exact rfl)
    | (with_reducible first | apply Wo_nil | apply W_ss | apply W_srl | apply W_rl | apply W_sblock | apply W_block | apply W_sskip | apply W_skip | apply W_sret | apply W_ret | apply W_sexit | apply W_exit | apply thenW_n | apply thenW_r | apply thenW_e | apply inB_n | apply inB_r | apply inB_e)
    | ((with_reducible apply Wo_gt); (exact rfl); ((conv => lhs; simp -implicitDefEqProofs [*]) <;> exact rfl); (conv => lhs; simp -implicitDefEqProofs [*]) <;> exact rfl)
    | ((with_reducible apply Wo_gf); (exact rfl); ((conv => lhs; simp -implicitDefEqProofs [*]) <;> exact rfl); (exact rfl))
    | ((with_reducible apply Wo_gx); (exact rfl); ((conv => lhs; simp -implicitDefEqProofs [*]) <;> exact rfl))
    | ((with_reducible apply Wo_gsT); (exact rfl); ((conv => lhs; simp -implicitDefEqProofs [*]) <;> exact rfl))
    | ((with_reducible apply Wo_gsF); (exact rfl); ((conv => lhs; simp -implicitDefEqProofs [*]) <;> exact rfl))
    | ((with_reducible apply Wd_gsT); (exact rfl); ((conv => lhs; simp -implicitDefEqProofs [*]) <;> exact rfl))
    | ((with_reducible apply Wd_gsF); (exact rfl); ((conv => lhs; simp -implicitDefEqProofs [*]) <;> exact rfl))
    | ((with_reducible first | apply W_srdl | apply W_rdl); kernel_rfl)
    | ((with_reducible apply Wd_nil); exact rfl)
    | ((with_reducible apply inB_o); rotate_left; exact rfl)
    | (intro h h'; try simp [*, -h] at h'))
  refine W_loopS (n := l.length) (fun s0 m s => ∃ k g : Nat, m = l.length - k ∧ k ≤ l.length ∧ s.fr 12 = iv k ∧ s.fr 3 = .own ⟨0, 9, 0⟩ g (4 * k) ∧ s.fr 10 = s0.fr 10 ∧ s.fr 11 = s0.fr 11 ∧ s.hp ⟨0, 9, 0⟩ = .arr g 1 5 (rowB (bys (l.take k))) false) ⟨0, 1, by simp, by omega, by simp, by simp, by simp, by simp, by simp [bys]⟩ ?_
  rintro m ⟨fr, hp⟩ ⟨k, g, rfl, hk, hs12, hs3, hs10, hs11, hh9⟩
  simp at hs12 hs3 hs10 hs11 hh9
  by_cases hlt : k < l.length
  · have hg := List.getElem?_eq_getElem hlt
    have hw := wrapN (k := k) (by omega)
    have e0 : IntKind.u8.wrap l[k] = l[k] % 256 := IntKind.wrap_u8 _
    have e1 : IntKind.u8.wrap (l[k] / 256) = l[k] / 256 % 256 := IntKind.wrap_u8 _
    have e2 : IntKind.u8.wrap (l[k] / 65536) = l[k] / 65536 % 256 := IntKind.wrap_u8 _
    have e3 : IntKind.u8.wrap (l[k] / 16777216) = l[k] / 16777216 % 256 := IntKind.wrap_u8 _
    have hbl : (bys (l.take k)).length = 4 * k := by rw [bys_len, List.length_take]; omega
    have hap : rowB (bys (l.take k)) ++ [[.sc (.int .u8 (l[k] % 256))], [.sc (.int .u8 (l[k] / 256 % 256))], [.sc (.int .u8 (l[k] / 65536 % 256))], [.sc (.int .u8 (l[k] / 16777216 % 256))]] = rowB (bys (l.take (k + 1))) := by
      rw [← bys_snoc hg]; simp [b4]
    have b1 : 4 * k ≤ 140737488355324 := by omega
    have b2 : 4 * k ≤ 9223372036854775803 := by omega
    repeat' (first
      | ((with_reducible first | apply Wo_u | apply Wo_n | apply ex2 | apply W_sc | apply W_c | apply Wd_u | apply Wd_n | apply ex4 | apply EndQ_ret | apply EndQ_normal); (conv => lhs; simp -implicitDefEqProofs [*]) <;> exact rfl)
      | (with_reducible first | apply Wo_nil | apply W_ss | apply W_srl | apply W_rl | apply W_sblock | apply W_block | apply W_sskip | apply W_skip | apply W_sret | apply W_ret | apply W_sexit | apply W_exit | apply thenW_n | apply thenW_r | apply thenW_e | apply inB_n | apply inB_r | apply inB_e)
      | ((with_reducible apply Wo_gt); (exact rfl); ((conv => lhs; simp -implicitDefEqProofs [*]) <;> exact rfl); (conv => lhs; simp -implicitDefEqProofs [*]) <;> exact rfl)
      | ((with_reducible apply Wo_gf); (exact rfl); ((conv => lhs; simp -implicitDefEqProofs [*]) <;> exact rfl); (exact rfl))
      | ((with_reducible apply Wo_gx); (exact rfl); ((conv => lhs; simp -implicitDefEqProofs [*]) <;> exact rfl))
      | ((with_reducible apply Wo_gsT); (exact rfl); ((conv => lhs; simp -implicitDefEqProofs [*]) <;> exact rfl))
      | ((with_reducible apply Wo_gsF); (exact rfl); ((conv => lhs; simp -implicitDefEqProofs [*]) <;> exact rfl))
      | ((with_reducible apply Wd_gsT); (exact rfl); ((conv => lhs; simp -implicitDefEqProofs [*]) <;> exact rfl))
      | ((with_reducible apply Wd_gsF); (exact rfl); ((conv => lhs; simp -implicitDefEqProofs [*]) <;> exact rfl))
      | ((with_reducible first | apply W_srdl | apply W_rdl); kernel_rfl)
      | ((with_reducible apply Wd_nil); exact rfl)
      | ((with_reducible apply inB_o); rotate_left; exact rfl)
      | (intro h h'; try simp [*, -h] at h'))
    exact ⟨_, by omega, k + 1, g + 1, rfl, hlt, by simp, by simp [Nat.mul_add], by simp [*], by simp [*], by simp [*]⟩
  · obtain rfl : k = l.length := by omega
    have hta : l.take l.length = l := List.take_of_length_le (Nat.le_refl _)
    have hbl : (bys l).length = 4 * l.length := bys_len l
    have htk : (rowB (bys l)).take (4 * l.length) = rowB (bys l) := List.take_of_length_le (by simp [hbl])
    have hbr := bytes_rowB (bys l)
    rw [hta] at hh9
    repeat' (first
      | ((with_reducible first | apply Wo_u | apply Wo_n | apply ex2 | apply W_sc | apply W_c | apply Wd_u | apply Wd_n | apply ex4 | apply EndQ_ret | apply EndQ_normal); (conv => lhs; simp -implicitDefEqProofs [*]) <;> exact rfl)
      | (with_reducible first | apply Wo_nil | apply W_ss | apply W_srl | apply W_rl | apply W_sblock | apply W_block | apply W_sskip | apply W_skip | apply W_sret | apply W_ret | apply W_sexit | apply W_exit | apply thenW_n | apply thenW_r | apply thenW_e | apply inB_n | apply inB_r | apply inB_e)
      | ((with_reducible apply Wo_gt); (exact rfl); ((conv => lhs; simp -implicitDefEqProofs [*]) <;> exact rfl); (conv => lhs; simp -implicitDefEqProofs [*]) <;> exact rfl)
      | ((with_reducible apply Wo_gf); (exact rfl); ((conv => lhs; simp -implicitDefEqProofs [*]) <;> exact rfl); (exact rfl))
      | ((with_reducible apply Wo_gx); (exact rfl); ((conv => lhs; simp -implicitDefEqProofs [*]) <;> exact rfl))
      | ((with_reducible apply Wo_gsT); (exact rfl); ((conv => lhs; simp -implicitDefEqProofs [*]) <;> exact rfl))
      | ((with_reducible apply Wo_gsF); (exact rfl); ((conv => lhs; simp -implicitDefEqProofs [*]) <;> exact rfl))
      | ((with_reducible apply Wd_gsT); (exact rfl); ((conv => lhs; simp -implicitDefEqProofs [*]) <;> exact rfl))
      | ((with_reducible apply Wd_gsF); (exact rfl); ((conv => lhs; simp -implicitDefEqProofs [*]) <;> exact rfl))
      | ((with_reducible first | apply W_srdl | apply W_rdl); kernel_rfl)
      | ((with_reducible apply Wd_nil); exact rfl)
      | ((with_reducible apply inB_o); rotate_left; exact rfl)
      | (intro h h'; try simp [*, -h] at h'))
    rfl
end Go.Proofs.YtaeeffddinppeaaGreatDoor

namespace Go.Proofs.YtaeeffddinppeaaGreatDoor
open Go Go.Ab
set_option maxHeartbeats 1000000 in
theorem d31 (l : List Int) (data : Int)  : (lim Tryz.prog E47 X47).dat 112 [.agg [.sl false 1 (rowW l), iv data]] = some [bv (decide (l.length ≤ 16384) && decide (0 ≤ data) && decide (data ≤ 32768))] := by
  refine fnW Tryz.func112 rfl rfl bodyOk_112 rfl rtys_112 rfl ?_
  by_cases h1 : l.length ≤ 16384
  all_goals by_cases h2 : 0 ≤ data
  all_goals by_cases h3 : data ≤ 32768
  all_goals first
    | have n1 : (l.length : Int) ≤ 16384 := by omega
    | have n1 : ¬ (l.length : Int) ≤ 16384 := by omega
  all_goals
    repeat' (first
      | ((with_reducible first | apply Wo_u | apply Wo_n | apply ex2 | apply W_sc | apply W_c | apply Wd_u | apply Wd_n | apply ex4 | apply EndQ_ret | apply EndQ_normal); (conv => lhs; simp -implicitDefEqProofs [*]) <;> exact rfl)
      | (with_reducible first | apply Wo_nil | apply W_ss | apply W_srl | apply W_rl | apply W_sblock | apply W_block | apply W_sskip | apply W_skip | apply W_sret | apply W_ret | apply W_sexit | apply W_exit | apply thenW_n | apply thenW_r | apply thenW_e | apply inB_n | apply inB_r | apply inB_e)
      | ((with_reducible apply Wo_gt); (exact rfl); ((conv => lhs; simp -implicitDefEqProofs [*]) <;> exact rfl); (conv => lhs; simp -implicitDefEqProofs [*]) <;> exact rfl)
      | ((with_reducible apply Wo_gf); (exact rfl); ((conv => lhs; simp -implicitDefEqProofs [*]) <;> exact rfl); (exact rfl))
      | ((with_reducible apply Wo_gx); (exact rfl); ((conv => lhs; simp -implicitDefEqProofs [*]) <;> exact rfl))
      | ((with_reducible apply Wo_gsT); (exact rfl); ((conv => lhs; simp -implicitDefEqProofs [*]) <;> exact rfl))
      | ((with_reducible apply Wo_gsF); (exact rfl); ((conv => lhs; simp -implicitDefEqProofs [*]) <;> exact rfl))
      | ((with_reducible apply Wd_gsT); (exact rfl); ((conv => lhs; simp -implicitDefEqProofs [*]) <;> exact rfl))
      | ((with_reducible apply Wd_gsF); (exact rfl); ((conv => lhs; simp -implicitDefEqProofs [*]) <;> exact rfl))
      | ((with_reducible first | apply W_srdl | apply W_rdl); kernel_rfl)
      | ((with_reducible apply Wd_nil); exact rfl)
      | ((with_reducible apply inB_o); rotate_left; exact rfl)
      | (intro h h'; try simp [*, -h] at h'))
  all_goals simp [*]
set_option maxHeartbeats 4000000 in
theorem d32 (l : List Int) (hl : l.length ≤ 1048576) (hU : ∀ x ∈ l, U x) : (lim Tryz.prog E47 X47).dat 113 [.sl false 1 (rowW l)] = some [.sc (.string (txtW l))] := by
  refine fnW Tryz.func113 rfl rfl bodyOk_113 rfl rtys_113 rfl ?_
  have hm : IntKind.i64.wrap (4 * (l.length : Int)) = 4 * (l.length : Int) := wrap64 (by omega) (by omega)
  have m0 : (0 : Int) ≤ 4 * (l.length : Int) := by omega
  have m1 : 4 * (l.length : Int) ≤ 9223372036854775807 := by omega
  have m2 : 4 * (l.length : Int) ≤ 140737488355328 := by omega
  have w3 : IntKind.i64.wrap 3 = 3 := by decide +kernel
  have w4 : IntKind.i64.wrap 4 = 4 := by decide +kernel
  repeat' (first
    | ((with_reducible first | apply Wo_u | apply Wo_n | apply ex2 | apply W_sc | apply W_c | apply Wd_u | apply Wd_n | apply ex4 | apply EndQ_ret | apply EndQ_normal); (conv => lhs; simp -implicitDefEqProofs [*]) <;> exact rfl)
    | (with_reducible first | apply Wo_nil | apply W_ss | apply W_srl | apply W_rl | apply W_sblock | apply W_block | apply W_sskip | apply W_skip | apply W_sret | apply W_ret | apply W_sexit | apply W_exit | apply thenW_n | apply thenW_r | apply thenW_e | apply inB_n | apply inB_r | apply inB_e)
    | ((with_reducible apply Wo_gt); (exact rfl); ((conv => lhs; simp -implicitDefEqProofs [*]) <;> exact rfl); (conv => lhs; simp -implicitDefEqProofs [*]) <;> exact rfl)
    | ((with_reducible apply Wo_gf); (exact rfl); ((conv => lhs; simp -implicitDefEqProofs [*]) <;> exact rfl); (exact rfl))
    | ((with_reducible apply Wo_gx); (exact rfl); ((conv => lhs; simp -implicitDefEqProofs [*]) <;> exact rfl))
    | ((with_reducible apply Wo_gsT); (exact rfl); ((conv => lhs; simp -implicitDefEqProofs [*]) <;> exact rfl))
    | ((with_reducible apply Wo_gsF); (exact rfl); ((conv => lhs; simp -implicitDefEqProofs [*]) <;> exact rfl))
    | ((with_reducible apply Wd_gsT); (exact rfl); ((conv => lhs; simp -implicitDefEqProofs [*]) <;> exact rfl))
    | ((with_reducible apply Wd_gsF); (exact rfl); ((conv => lhs; simp -implicitDefEqProofs [*]) <;> exact rfl))
    | ((with_reducible first | apply W_srdl | apply W_rdl); kernel_rfl)
    | ((with_reducible apply Wd_nil); exact rfl)
    | ((with_reducible apply inB_o); rotate_left; exact rfl)
    | (intro h h'; try simp [*, -h] at h'))
  refine W_loopS (n := l.length) (fun s0 m s => ∃ k g : Nat, m = l.length - k ∧ k ≤ l.length ∧ s.fr 4 = iv k ∧ s.fr 3 = .own ⟨0, 10, 0⟩ g (4 * k) ∧ s.fr 0 = s0.fr 0 ∧ s.hp ⟨0, 10, 0⟩ = .arr g 1 5 (rowB (bys (l.take k))) false) ⟨0, 1, by simp, by omega, by simp, by simp, by simp, by simp [bys]⟩ ?_
  rintro m ⟨fr, hp⟩ ⟨k, g, rfl, hk, hs4, hs3, hs0, hh9⟩
  simp at hs4 hs3 hs0 hh9
  by_cases hlt : k < l.length
  · have hg := List.getElem?_eq_getElem hlt
    have hw := wrapN (k := k) (by omega)
    have hu := hU _ (List.getElem_mem hlt)
    obtain ⟨w, hwl⟩ : ∃ w, l[k] = w := ⟨_, rfl⟩
    rw [hwl] at hg hu
    have hwe : ∀ h, l[k]'h = w := fun _ => hwl
    unfold U at hu
    have r0 : w.tmod 256 = w % 256 := Int.tmod_eq_emod_of_nonneg hu.1
    have r1 : (w / 256).tmod 256 = w / 256 % 256 := Int.tmod_eq_emod_of_nonneg (by omega)
    have r2 : (w / 65536).tmod 256 = w / 65536 % 256 := Int.tmod_eq_emod_of_nonneg (by omega)
    have r3 : (w / 16777216).tmod 256 = w / 16777216 % 256 := Int.tmod_eq_emod_of_nonneg (by omega)
    have q0 : IntKind.u32.wrap (w.tdiv 256) = w / 256 := by rw [Int.tdiv_eq_ediv_of_nonneg hu.1, IntKind.wrap_u32]; omega
    have q1 : IntKind.u32.wrap ((w / 256).tdiv 256) = w / 65536 := by rw [Int.tdiv_eq_ediv_of_nonneg (by omega), IntKind.wrap_u32]; omega
    have q2 : IntKind.u32.wrap ((w / 65536).tdiv 256) = w / 16777216 := by rw [Int.tdiv_eq_ediv_of_nonneg (by omega), IntKind.wrap_u32]; omega
    have e0 : IntKind.u8.wrap (w % 256) = w % 256 := by rw [IntKind.wrap_u8]; omega
    have e1 : IntKind.u8.wrap (w / 256 % 256) = w / 256 % 256 := by rw [IntKind.wrap_u8]; omega
    have e2 : IntKind.u8.wrap (w / 65536 % 256) = w / 65536 % 256 := by rw [IntKind.wrap_u8]; omega
    have e3 : IntKind.u8.wrap (w / 16777216 % 256) = w / 16777216 % 256 := by rw [IntKind.wrap_u8]; omega
    have hbl : (bys (l.take k)).length = 4 * k := by rw [bys_len, List.length_take]; omega
    have hap : rowB (bys (l.take k)) ++ [[.sc (.int .u8 (w % 256))], [.sc (.int .u8 (w / 256 % 256))], [.sc (.int .u8 (w / 65536 % 256))], [.sc (.int .u8 (w / 16777216 % 256))]] = rowB (bys (l.take (k + 1))) := by
      rw [← bys_snoc hg]; simp [b4]
    have b0 : 4 * k ≤ 140737488355327 := by omega
    have b1 : 4 * k ≤ 140737488355326 := by omega
    have b2 : 4 * k ≤ 140737488355325 := by omega
    have b3 : 4 * k ≤ 140737488355324 := by omega
    have c0 : 4 * k ≤ 9223372036854775806 := by omega
    have c1 : 4 * k ≤ 9223372036854775805 := by omega
    have c2 : 4 * k ≤ 9223372036854775804 := by omega
    have c3 : 4 * k ≤ 9223372036854775803 := by omega
    repeat' (first
      | ((with_reducible first | apply Wo_u | apply Wo_n | apply ex2 | apply W_sc | apply W_c | apply Wd_u | apply Wd_n | apply ex4 | apply EndQ_ret | apply EndQ_normal); (conv => lhs; simp -implicitDefEqProofs [*]) <;> exact rfl)
      | (with_reducible first | apply Wo_nil | apply W_ss | apply W_srl | apply W_rl | apply W_sblock | apply W_block | apply W_sskip | apply W_skip | apply W_sret | apply W_ret | apply W_sexit | apply W_exit | apply thenW_n | apply thenW_r | apply thenW_e | apply inB_n | apply inB_r | apply inB_e)
      | ((with_reducible apply Wo_gt); (exact rfl); ((conv => lhs; simp -implicitDefEqProofs [*]) <;> exact rfl); (conv => lhs; simp -implicitDefEqProofs [*]) <;> exact rfl)
      | ((with_reducible apply Wo_gf); (exact rfl); ((conv => lhs; simp -implicitDefEqProofs [*]) <;> exact rfl); (exact rfl))
      | ((with_reducible apply Wo_gx); (exact rfl); ((conv => lhs; simp -implicitDefEqProofs [*]) <;> exact rfl))
      | ((with_reducible apply Wo_gsT); (exact rfl); ((conv => lhs; simp -implicitDefEqProofs [*]) <;> exact rfl))
      | ((with_reducible apply Wo_gsF); (exact rfl); ((conv => lhs; simp -implicitDefEqProofs [*]) <;> exact rfl))
      | ((with_reducible apply Wd_gsT); (exact rfl); ((conv => lhs; simp -implicitDefEqProofs [*]) <;> exact rfl))
      | ((with_reducible apply Wd_gsF); (exact rfl); ((conv => lhs; simp -implicitDefEqProofs [*]) <;> exact rfl))
      | ((with_reducible first | apply W_srdl | apply W_rdl); kernel_rfl)
      | ((with_reducible apply Wd_nil); exact rfl)
      | ((with_reducible apply inB_o); rotate_left; exact rfl)
      | (intro h h'; try simp [*, -h] at h')
      | with_reducible apply W_unroll)
    exact ⟨_, by omega, k + 1, g + 1 + 1 + 1 + 1, rfl, hlt, by simp, by simp [Nat.mul_add], by simp [*], by simp [*]⟩
  · obtain rfl : k = l.length := by omega
    have hta : l.take l.length = l := List.take_of_length_le (Nat.le_refl _)
    have hbl : (bys l).length = 4 * l.length := bys_len l
    have htk : (rowB (bys l)).take (4 * l.length) = rowB (bys l) := List.take_of_length_le (by simp [hbl])
    have hbr := bytes_rowB (bys l)
    rw [hta] at hh9
    repeat' (first
      | ((with_reducible first | apply Wo_u | apply Wo_n | apply ex2 | apply W_sc | apply W_c | apply Wd_u | apply Wd_n | apply ex4 | apply EndQ_ret | apply EndQ_normal); (conv => lhs; simp -implicitDefEqProofs [*]) <;> exact rfl)
      | (with_reducible first | apply Wo_nil | apply W_ss | apply W_srl | apply W_rl | apply W_sblock | apply W_block | apply W_sskip | apply W_skip | apply W_sret | apply W_ret | apply W_sexit | apply W_exit | apply thenW_n | apply thenW_r | apply thenW_e | apply inB_n | apply inB_r | apply inB_e)
      | ((with_reducible apply Wo_gt); (exact rfl); ((conv => lhs; simp -implicitDefEqProofs [*]) <;> exact rfl); (conv => lhs; simp -implicitDefEqProofs [*]) <;> exact rfl)
      | ((with_reducible apply Wo_gf); (exact rfl); ((conv => lhs; simp -implicitDefEqProofs [*]) <;> exact rfl); (exact rfl))
      | ((with_reducible apply Wo_gx); (exact rfl); ((conv => lhs; simp -implicitDefEqProofs [*]) <;> exact rfl))
      | ((with_reducible apply Wo_gsT); (exact rfl); ((conv => lhs; simp -implicitDefEqProofs [*]) <;> exact rfl))
      | ((with_reducible apply Wo_gsF); (exact rfl); ((conv => lhs; simp -implicitDefEqProofs [*]) <;> exact rfl))
      | ((with_reducible apply Wd_gsT); (exact rfl); ((conv => lhs; simp -implicitDefEqProofs [*]) <;> exact rfl))
      | ((with_reducible apply Wd_gsF); (exact rfl); ((conv => lhs; simp -implicitDefEqProofs [*]) <;> exact rfl))
      | ((with_reducible first | apply W_srdl | apply W_rdl); kernel_rfl)
      | ((with_reducible apply Wd_nil); exact rfl)
      | ((with_reducible apply inB_o); rotate_left; exact rfl)
      | (intro h h'; try simp [*, -h] at h'))
    rfl
end Go.Proofs.YtaeeffddinppeaaGreatDoor

namespace Go.Proofs.YtaeeffddinppeaaGreatDoor
open Go Go.Ab
def txtI (l : List Int) (data : Int) : ByteArray := ⟨#[83, 69, 69, 68]⟩ ++ txtW [(l.length : Int), data] ++ txtW l
theorem txtW_size (l : List Int) : (txtW l).size = 4 * l.length := by
  show (toBytes (bys l)).toArray.size = _
  simp [toBytes, bys_len]
set_option maxHeartbeats 4000000 in
theorem d19 (l : List Int) (data : Int) (hl : l.length ≤ 16384) (hd : 0 ≤ data ∧ data ≤ 32768) (hU : ∀ x ∈ l, U x) : (lim Tryz.prog E47 X47).dat 38 [.agg [.sl false 1 (rowW l), iv data]] = some [.sc (.string (txtI l data)), iv 0] := by
  refine fnW Tryz.func38 rfl rfl bodyOk_38 rfl rtys_38 rfl ?_
  have h25 := d25 l data
  rw [show (decide (l.length ≤ 16384) && decide (0 ≤ data) && decide (data ≤ 32768)) = true from by simp [hl, hd]] at h25
  have w1 : IntKind.u32.wrap (l.length : Int) = l.length := by rw [IntKind.wrap_u32]; omega
  have w2 : IntKind.u32.wrap data = data := by rw [IntKind.wrap_u32]; omega
  have h26 := d26 [(l.length : Int), data] (by simp) (by
    intro x hx
    simp only [List.mem_cons, List.not_mem_nil, or_false] at hx
    unfold U
    rcases hx with rfl | rfl <;> omega)
  simp only [List.map_cons, List.map_nil] at h26
  have h26b := d26 l (by omega) hU
  have z1 := txtW_size [(l.length : Int), data]
  have z2 := txtW_size l
  simp only [List.length_cons, List.length_nil] at z1
  generalize hA : txtW [(l.length : Int), data] = A at h26 z1
  generalize hB : txtW l = B at h26b z2
  have z3 : 4 + A.size ≤ 9223372036854775807 := by omega
  have z4 : (⟨#[83, 69, 69, 68]⟩ ++ A : ByteArray).size + B.size ≤ 9223372036854775807 := by rw [ByteArray.size_append, z1, z2]; show 4 + _ + _ ≤ _; omega
  have z5 : 4 + A.size + B.size ≤ 9223372036854775807 := by omega
  have hT : txtI l data = ⟨#[83, 69, 69, 68]⟩ ++ A ++ B := by rw [← hA, ← hB]; rfl
  have z6 : (⟨#[83, 69, 69, 68]⟩ : ByteArray).size + 8 + 4 * l.length ≤ 9223372036854775807 := by show 4 + 8 + 4 * l.length ≤ _; omega
  have z7 : (⟨#[83, 69, 69, 68]⟩ : ByteArray).size + 8 ≤ 9223372036854775807 := by show 4 + 8 ≤ _; omega
  clear hU hl hd
  repeat' (first
    | ((with_reducible first | apply Wo_u | apply Wo_n | apply ex2 | apply W_sc | apply W_c | apply Wd_u | apply Wd_n | apply ex4 | apply EndQ_ret | apply EndQ_normal); (conv => lhs; simp -implicitDefEqProofs [*]) <;> exact rfl)
    | (with_reducible first | apply Wo_nil | apply W_ss | apply W_srl | apply W_rl | apply W_sblock | apply W_block | apply W_sskip | apply W_skip | apply W_sret | apply W_ret | apply W_sexit | apply W_exit | apply thenW_n | apply thenW_r | apply thenW_e | apply inB_n | apply inB_r | apply inB_e)
    | ((with_reducible apply Wo_gt); (exact rfl); ((conv => lhs; simp -implicitDefEqProofs [*]) <;> exact rfl); (conv => lhs; simp -implicitDefEqProofs [*]) <;> exact rfl)
    | ((with_reducible apply Wo_gf); (exact rfl); ((conv => lhs; simp -implicitDefEqProofs [*]) <;> exact rfl); (exact rfl))
    | ((with_reducible apply Wo_gx); (exact rfl); ((conv => lhs; simp -implicitDefEqProofs [*]) <;> exact rfl))
    | ((with_reducible apply Wo_gsT); (exact rfl); ((conv => lhs; simp -implicitDefEqProofs [*]) <;> exact rfl))
    | ((with_reducible apply Wo_gsF); (exact rfl); ((conv => lhs; simp -implicitDefEqProofs [*]) <;> exact rfl))
    | ((with_reducible apply Wd_gsT); (exact rfl); ((conv => lhs; simp -implicitDefEqProofs [*]) <;> exact rfl))
    | ((with_reducible apply Wd_gsF); (exact rfl); ((conv => lhs; simp -implicitDefEqProofs [*]) <;> exact rfl))
    | ((with_reducible first | apply W_srdl | apply W_rdl); kernel_rfl)
    | ((with_reducible apply Wd_nil); exact rfl)
    | ((with_reducible apply inB_o); rotate_left; exact rfl)
    | (intro h h'; try simp [*, -h] at h'))
  all_goals simp [*]
set_option maxHeartbeats 4000000 in
theorem d23 (l : List Int) (data : Int) (hl : l.length ≤ 16384) (hd : 0 ≤ data ∧ data ≤ 32768) (hU : ∀ x ∈ l, U x) : (lim Tryz.prog E47 X47).dat 73 [.agg [.sl false 1 (rowW l), iv data]] = some [.sc (.string (txtI l data)), iv 0] := by
  refine fnW Tryz.func73 rfl rfl bodyOk_73 rfl rtys_73 rfl ?_
  have h25 := d31 l data
  rw [show (decide (l.length ≤ 16384) && decide (0 ≤ data) && decide (data ≤ 32768)) = true from by simp [hl, hd]] at h25
  have w1 : IntKind.u32.wrap (l.length : Int) = l.length := by rw [IntKind.wrap_u32]; omega
  have w2 : IntKind.u32.wrap data = data := by rw [IntKind.wrap_u32]; omega
  have h26 := d32 [(l.length : Int), data] (by simp) (by
    intro x hx
    simp only [List.mem_cons, List.not_mem_nil, or_false] at hx
    unfold U
    rcases hx with rfl | rfl <;> omega)
  simp only [List.map_cons, List.map_nil] at h26
  have h26b := d32 l (by omega) hU
  have z1 := txtW_size [(l.length : Int), data]
  have z2 := txtW_size l
  simp only [List.length_cons, List.length_nil] at z1
  generalize hA : txtW [(l.length : Int), data] = A at h26 z1
  generalize hB : txtW l = B at h26b z2
  have z3 : 4 + A.size ≤ 9223372036854775807 := by omega
  have z4 : (⟨#[83, 69, 69, 68]⟩ ++ A : ByteArray).size + B.size ≤ 9223372036854775807 := by rw [ByteArray.size_append, z1, z2]; show 4 + _ + _ ≤ _; omega
  have z5 : 4 + A.size + B.size ≤ 9223372036854775807 := by omega
  have hT : txtI l data = ⟨#[83, 69, 69, 68]⟩ ++ A ++ B := by rw [← hA, ← hB]; rfl
  have z6 : (⟨#[83, 69, 69, 68]⟩ : ByteArray).size + 8 + 4 * l.length ≤ 9223372036854775807 := by show 4 + 8 + 4 * l.length ≤ _; omega
  have z7 : (⟨#[83, 69, 69, 68]⟩ : ByteArray).size + 8 ≤ 9223372036854775807 := by show 4 + 8 ≤ _; omega
  clear hU hl hd
  repeat' (first
    | ((with_reducible first | apply Wo_u | apply Wo_n | apply ex2 | apply W_sc | apply W_c | apply Wd_u | apply Wd_n | apply ex4 | apply EndQ_ret | apply EndQ_normal); (conv => lhs; simp -implicitDefEqProofs [*]) <;> exact rfl)
    | (with_reducible first | apply Wo_nil | apply W_ss | apply W_srl | apply W_rl | apply W_sblock | apply W_block | apply W_sskip | apply W_skip | apply W_sret | apply W_ret | apply W_sexit | apply W_exit | apply thenW_n | apply thenW_r | apply thenW_e | apply inB_n | apply inB_r | apply inB_e)
    | ((with_reducible apply Wo_gt); (exact rfl); ((conv => lhs; simp -implicitDefEqProofs [*]) <;> exact rfl); (conv => lhs; simp -implicitDefEqProofs [*]) <;> exact rfl)
    | ((with_reducible apply Wo_gf); (exact rfl); ((conv => lhs; simp -implicitDefEqProofs [*]) <;> exact rfl); (exact rfl))
    | ((with_reducible apply Wo_gx); (exact rfl); ((conv => lhs; simp -implicitDefEqProofs [*]) <;> exact rfl))
    | ((with_reducible apply Wo_gsT); (exact rfl); ((conv => lhs; simp -implicitDefEqProofs [*]) <;> exact rfl))
    | ((with_reducible apply Wo_gsF); (exact rfl); ((conv => lhs; simp -implicitDefEqProofs [*]) <;> exact rfl))
    | ((with_reducible apply Wd_gsT); (exact rfl); ((conv => lhs; simp -implicitDefEqProofs [*]) <;> exact rfl))
    | ((with_reducible apply Wd_gsF); (exact rfl); ((conv => lhs; simp -implicitDefEqProofs [*]) <;> exact rfl))
    | ((with_reducible first | apply W_srdl | apply W_rdl); kernel_rfl)
    | ((with_reducible apply Wd_nil); exact rfl)
    | ((with_reducible apply inB_o); rotate_left; exact rfl)
    | (intro h h'; try simp [*, -h] at h'))
  all_goals simp [*]
end Go.Proofs.YtaeeffddinppeaaGreatDoor
