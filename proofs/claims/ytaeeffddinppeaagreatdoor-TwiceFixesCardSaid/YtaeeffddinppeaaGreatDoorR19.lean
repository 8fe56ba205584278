/- A part of the proof: Ka. -/
import Derived.Test.YtaeeffddinppeaaGreatDoorR18
set_option linter.unusedSimpArgs false
set_option linter.unusedVariables false
namespace Go.Proofs.YtaeeffddinppeaaGreatDoor
open Go Go.Ab
def E47 : Cfg := ⟨fun t => t == 34 || t == 44 || t == 53, fun f => f == 162 || f == 215 || f == 217, fun _ => false⟩
@[simp] theorem E47_hp (f : Nat) : E47.hp f = (f == 162 || f == 215 || f == 217) := rfl
@[simp] theorem E47_eq (f : Nat) : E47.eq f = (f == 34 || f == 44 || f == 53) := rfl
def U (n : Int) : Prop := 0 ≤ n ∧ n < 4294967296
def b4 (w : Int) : List Int := [w % 256, w / 256 % 256, w / 65536 % 256, w / 16777216 % 256]
def bys (l : List Int) : List Int := l.flatMap b4
def txtW (l : List Int) : ByteArray := ⟨⟨toBytes (bys l)⟩⟩
@[simp] theorem fd8 (w : Int) : w.fdiv (2 ^ min 8 IntKind.u32.bits) = w / 256 := by rw [show (2 : Int) ^ min 8 IntKind.u32.bits = 256 from by decide +kernel]; exact Int.fdiv_eq_ediv_of_nonneg _ (by omega)
@[simp] theorem fd16 (w : Int) : w.fdiv (2 ^ min 16 IntKind.u32.bits) = w / 65536 := by rw [show (2 : Int) ^ min 16 IntKind.u32.bits = 65536 from by decide +kernel]; exact Int.fdiv_eq_ediv_of_nonneg _ (by omega)
@[simp] theorem fd24 (w : Int) : w.fdiv (2 ^ min 24 IntKind.u32.bits) = w / 16777216 := by rw [show (2 : Int) ^ min 24 IntKind.u32.bits = 16777216 from by decide +kernel]; exact Int.fdiv_eq_ediv_of_nonneg _ (by omega)
theorem bys_len : ∀ l : List Int, (bys l).length = 4 * l.length
  | [] => rfl
  | x :: l => by
    have := bys_len l
    unfold bys at this ⊢
    simp only [List.flatMap_cons, List.length_append, this, List.length_cons, b4, List.length_nil]; omega
theorem bys_snoc {l : List Int} {k : Nat} {w : Int} (h : l[k]? = some w) : bys (l.take k) ++ b4 w = bys (l.take (k + 1)) := by
  rw [List.take_add_one, h]
  unfold bys
  rw [List.flatMap_append]
  simp
set_option maxHeartbeats 1000000 in
theorem d26 (l : List Int) (hl : l.length ≤ 1048576) (hU : ∀ x ∈ l, U x) : (lim Tryz.prog E47 X47).dat 46 [.sl false 1 (rowW l)] = some [.sc (.string (txtW l))] := by
  refine fnW Tryz.func46 rfl rfl bodyOk_46 rfl rtys_46 rfl ?_
  have hm : IntKind.i64.wrap (4 * (l.length : Int)) = 4 * (l.length : Int) := wrap64 (by omega) (by omega)
  have m0 : (0 : Int) ≤ 4 * (l.length : Int) := by omega
  have m1 : 4 * (l.length : Int) ≤ 9223372036854775807 := by omega
  have m2 : 4 * (l.length : Int) ≤ 140737488355328 := by omega
  refine sgo1 ?_
  refine W_loopS (n := l.length) (fun s0 m s => ∃ k g : Nat, m = l.length - k ∧ k ≤ l.length ∧ s.fr 12 = iv k ∧ s.fr 3 = .own ⟨0, 9, 0⟩ g (4 * k) ∧ s.fr 10 = s0.fr 10 ∧ s.fr 11 = s0.fr 11 ∧ s.hp ⟨0, 9, 0⟩ = .arr g 1 5 (rowB (bys (l.take k))) false) ⟨0, 1, by simp, by omega, by simp, by simp, by simp, by simp, by simp [bys]⟩ ?_
  rintro m ⟨fr, hp⟩ ⟨k, g, rfl, hk, hs12, hs3, hs10, hs11, hh9⟩
  simp at hs12 hs3 hs10 hs11 hh9
  by_cases hlt : k < l.length
  · have hg := List.getElem?_eq_getElem hlt
    have hw := wrapN (k := k) (by omega)
    have e0 : IntKind.u8.wrap l[k] = l[k] % 256 := IntKind.wrap_u8 _
    have e1 : IntKind.u8.wrap (l[k] / 256) = l[k] / 256 % 256 := IntKind.wrap_u8 _
    have e2 : IntKind.u8.wrap (l[k] / 65536) = l[k] / 65536 % 256 := IntKind.wrap_u8 _
    have e3 : IntKind.u8.wrap (l[k] / 16777216) = l[k] / 16777216 % 256 := IntKind.wrap_u8 _
    have hbl : (bys (l.take k)).length = 4 * k := by rw [bys_len, List.length_take]; omega
    have hap : rowB (bys (l.take k)) ++ [[.sc (.int .u8 (l[k] % 256))], [.sc (.int .u8 (l[k] / 256 % 256))], [.sc (.int .u8 (l[k] / 65536 % 256))], [.sc (.int .u8 (l[k] / 16777216 % 256))]] = rowB (bys (l.take (k + 1))) := by
      rw [← bys_snoc hg]; simp [b4]
    have b1 : 4 * k ≤ 140737488355324 := by omega
    have b2 : 4 * k ≤ 9223372036854775803 := by omega
    refine sgo1 ?_
    exact ⟨_, by omega, k + 1, g + 1, rfl, hlt, by simp, by simp [Nat.mul_add], by simp [*], by simp [*], by simp [*]⟩
  · obtain rfl : k = l.length := by omega
    have hta : l.take l.length = l := List.take_of_length_le (Nat.le_refl _)
    have hbl : (bys l).length = 4 * l.length := bys_len l
    have htk : (rowB (bys l)).take (4 * l.length) = rowB (bys l) := List.take_of_length_le (by simp [hbl])
    have hbr := bytes_rowB (bys l)
    rw [hta] at hh9
    exact step7
end Go.Proofs.YtaeeffddinppeaaGreatDoor
