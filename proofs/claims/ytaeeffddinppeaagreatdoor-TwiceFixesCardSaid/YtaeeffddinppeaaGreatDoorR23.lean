/- A part of the proof: Kb, Kc, Kd. -/
import Derived.Test.YtaeeffddinppeaaGreatDoorR19
set_option linter.unusedSimpArgs false
set_option linter.unusedVariables false
namespace Go.Proofs.YtaeeffddinppeaaGreatDoor
open Go Go.Ab
set_option maxHeartbeats 1000000 in
theorem d31 (l : List Int) (data : Int)  : (lim Tryz.prog E47 X47).dat 112 [.agg [.sl false 1 (rowW l), iv data]] = some [bv (decide (l.length ≤ 16384) && decide (0 ≤ data) && decide (data ≤ 32768))] := by
  refine fnW Tryz.func112 rfl rfl bodyOk_112 rfl rtys_112 rfl ?_
  by_cases h1 : l.length ≤ 16384
  all_goals by_cases h2 : 0 ≤ data
  all_goals by_cases h3 : data ≤ 32768
  all_goals first
    | have n1 : (l.length : Int) ≤ 16384 := by omega
    | have n1 : ¬ (l.length : Int) ≤ 16384 := by omega
  all_goals exact step11
set_option maxHeartbeats 4000000 in
theorem d32 (l : List Int) (hl : l.length ≤ 1048576) (hU : ∀ x ∈ l, U x) : (lim Tryz.prog E47 X47).dat 113 [.sl false 1 (rowW l)] = some [.sc (.string (txtW l))] := by
  refine fnW Tryz.func113 rfl rfl bodyOk_113 rfl rtys_113 rfl ?_
  have hm : IntKind.i64.wrap (4 * (l.length : Int)) = 4 * (l.length : Int) := wrap64 (by omega) (by omega)
  have m0 : (0 : Int) ≤ 4 * (l.length : Int) := by omega
  have m1 : 4 * (l.length : Int) ≤ 9223372036854775807 := by omega
  have m2 : 4 * (l.length : Int) ≤ 140737488355328 := by omega
  have w3 : IntKind.i64.wrap 3 = 3 := by decide +kernel
  have w4 : IntKind.i64.wrap 4 = 4 := by decide +kernel
  refine sgo1 ?_
  refine W_loopS (n := l.length) (fun s0 m s => ∃ k g : Nat, m = l.length - k ∧ k ≤ l.length ∧ s.fr 4 = iv k ∧ s.fr 3 = .own ⟨0, 10, 0⟩ g (4 * k) ∧ s.fr 0 = s0.fr 0 ∧ s.hp ⟨0, 10, 0⟩ = .arr g 1 5 (rowB (bys (l.take k))) false) ⟨0, 1, by simp, by omega, by simp, by simp, by simp, by simp [bys]⟩ ?_
  rintro m ⟨fr, hp⟩ ⟨k, g, rfl, hk, hs4, hs3, hs0, hh9⟩
  simp at hs4 hs3 hs0 hh9
  by_cases hlt : k < l.length
  · have hg := List.getElem?_eq_getElem hlt
    have hw := wrapN (k := k) (by omega)
    have hu := hU _ (List.getElem_mem hlt)
    obtain ⟨w, hwl⟩ : ∃ w, l[k] = w := ⟨_, rfl⟩
    rw [hwl] at hg hu
    have hwe : ∀ h, l[k]'h = w := fun _ => hwl
    unfold U at hu
    have r0 : w.tmod 256 = w % 256 := Int.tmod_eq_emod_of_nonneg hu.1
    have r1 : (w / 256).tmod 256 = w / 256 % 256 := Int.tmod_eq_emod_of_nonneg (by omega)
    have r2 : (w / 65536).tmod 256 = w / 65536 % 256 := Int.tmod_eq_emod_of_nonneg (by omega)
    have r3 : (w / 16777216).tmod 256 = w / 16777216 % 256 := Int.tmod_eq_emod_of_nonneg (by omega)
    have q0 : IntKind.u32.wrap (w.tdiv 256) = w / 256 := by rw [Int.tdiv_eq_ediv_of_nonneg hu.1, IntKind.wrap_u32]; omega
    have q1 : IntKind.u32.wrap ((w / 256).tdiv 256) = w / 65536 := by rw [Int.tdiv_eq_ediv_of_nonneg (by omega), IntKind.wrap_u32]; omega
    have q2 : IntKind.u32.wrap ((w / 65536).tdiv 256) = w / 16777216 := by rw [Int.tdiv_eq_ediv_of_nonneg (by omega), IntKind.wrap_u32]; omega
    have e0 : IntKind.u8.wrap (w % 256) = w % 256 := by rw [IntKind.wrap_u8]; omega
    have e1 : IntKind.u8.wrap (w / 256 % 256) = w / 256 % 256 := by rw [IntKind.wrap_u8]; omega
    have e2 : IntKind.u8.wrap (w / 65536 % 256) = w / 65536 % 256 := by rw [IntKind.wrap_u8]; omega
    have e3 : IntKind.u8.wrap (w / 16777216 % 256) = w / 16777216 % 256 := by rw [IntKind.wrap_u8]; omega
    have hbl : (bys (l.take k)).length = 4 * k := by rw [bys_len, List.length_take]; omega
    have hap : rowB (bys (l.take k)) ++ [[.sc (.int .u8 (w % 256))], [.sc (.int .u8 (w / 256 % 256))], [.sc (.int .u8 (w / 65536 % 256))], [.sc (.int .u8 (w / 16777216 % 256))]] = rowB (bys (l.take (k + 1))) := by
      rw [← bys_snoc hg]; simp [b4]
    have b0 : 4 * k ≤ 140737488355327 := by omega
    have b1 : 4 * k ≤ 140737488355326 := by omega
    have b2 : 4 * k ≤ 140737488355325 := by omega
    have b3 : 4 * k ≤ 140737488355324 := by omega
    have c0 : 4 * k ≤ 9223372036854775806 := by omega
    have c1 : 4 * k ≤ 9223372036854775805 := by omega
    have c2 : 4 * k ≤ 9223372036854775804 := by omega
    have c3 : 4 * k ≤ 9223372036854775803 := by omega
    repeat' (first | ((with_reducible first | apply Wo_u | apply Wo_n | apply ex2 | apply W_sc | apply W_c | apply Wd_u | apply Wd_n | apply ex4 | apply EndQ_ret | apply EndQ_normal); (conv => lhs; simp -implicitDefEqProofs [*]) <;> exact rfl) | (with_reducible first | apply Wo_nil | apply W_ss | apply W_srl | apply W_rl | apply W_sblock | apply W_block | apply W_sskip | apply W_skip | apply W_sret | apply W_ret | apply W_sexit | apply W_exit | apply thenW_n | apply thenW_r | apply thenW_e | apply inB_n | apply inB_r | apply inB_e) | ((with_reducible apply Wo_gt); (exact rfl); ((conv => lhs; simp -implicitDefEqProofs [*]) <;> exact rfl); (conv => lhs; simp -implicitDefEqProofs [*]) <;> exact rfl) | ((with_reducible apply Wo_gf); (exact rfl); ((conv => lhs; simp -implicitDefEqProofs [*]) <;> exact rfl); (exact rfl)) | ((with_reducible apply Wo_gx); (exact rfl); ((conv => lhs; simp -implicitDefEqProofs [*]) <;> exact rfl)) | ((with_reducible apply Wo_gsT); (exact rfl); ((conv => lhs; simp -implicitDefEqProofs [*]) <;> exact rfl)) | ((with_reducible apply Wo_gsF); (exact rfl); ((conv => lhs; simp -implicitDefEqProofs [*]) <;> exact rfl)) | ((with_reducible apply Wd_gsT); (exact rfl); ((conv => lhs; simp -implicitDefEqProofs [*]) <;> exact rfl)) | ((with_reducible apply Wd_gsF); (exact rfl); ((conv => lhs; simp -implicitDefEqProofs [*]) <;> exact rfl)) | ((with_reducible first | apply W_srdl | apply W_rdl); kernel_rfl) | ((with_reducible apply Wd_nil); exact rfl) | ((with_reducible apply inB_o); rotate_left; exact rfl) | (intro h h'; try simp [*, -h] at h') | with_reducible apply W_unroll)
    exact ⟨_, by omega, k + 1, g + 1 + 1 + 1 + 1, rfl, hlt, by simp, by simp [Nat.mul_add], by simp [*], by simp [*]⟩
  · obtain rfl : k = l.length := by omega
    have hta : l.take l.length = l := List.take_of_length_le (Nat.le_refl _)
    have hbl : (bys l).length = 4 * l.length := bys_len l
    have htk : (rowB (bys l)).take (4 * l.length) = rowB (bys l) := List.take_of_length_le (by simp [hbl])
    have hbr := bytes_rowB (bys l)
    rw [hta] at hh9
    exact step7
end Go.Proofs.YtaeeffddinppeaaGreatDoor
namespace Go.Proofs.YtaeeffddinppeaaGreatDoor
open Go Go.Ab
def txtI (l : List Int) (data : Int) : ByteArray := ⟨#[83, 69, 69, 68]⟩ ++ txtW [(l.length : Int), data] ++ txtW l
theorem txtW_size (l : List Int) : (txtW l).size = 4 * l.length := by
  show (toBytes (bys l)).toArray.size = _
  simp [toBytes, bys_len]
set_option maxHeartbeats 4000000 in
theorem d23 (l : List Int) (data : Int) (hl : l.length ≤ 16384) (hd : 0 ≤ data ∧ data ≤ 32768) (hU : ∀ x ∈ l, U x) : (lim Tryz.prog E47 X47).dat 73 [.agg [.sl false 1 (rowW l), iv data]] = some [.sc (.string (txtI l data)), iv 0] := by
  refine fnW Tryz.func73 rfl rfl bodyOk_73 rfl rtys_73 rfl ?_
  have h25 := d31 l data
  rw [show (decide (l.length ≤ 16384) && decide (0 ≤ data) && decide (data ≤ 32768)) = true from by simp [hl, hd]] at h25
  have w1 : IntKind.u32.wrap (l.length : Int) = l.length := by rw [IntKind.wrap_u32]; omega
  have w2 : IntKind.u32.wrap data = data := by rw [IntKind.wrap_u32]; omega
  have h26 := d32 [(l.length : Int), data] (by simp) (by
    intro x hx
    simp only [List.mem_cons, List.not_mem_nil, or_false] at hx
    unfold U
    rcases hx with rfl | rfl <;> omega)
  simp only [List.map_cons, List.map_nil] at h26
  have h26b := d32 l (by omega) hU
  have z1 := txtW_size [(l.length : Int), data]
  have z2 := txtW_size l
  simp only [List.length_cons, List.length_nil] at z1
  generalize hA : txtW [(l.length : Int), data] = A at h26 z1
  generalize hB : txtW l = B at h26b z2
  have z3 : 4 + A.size ≤ 9223372036854775807 := by omega
  have z4 : (⟨#[83, 69, 69, 68]⟩ ++ A : ByteArray).size + B.size ≤ 9223372036854775807 := by rw [ByteArray.size_append, z1, z2]; show 4 + _ + _ ≤ _; omega
  have z5 : 4 + A.size + B.size ≤ 9223372036854775807 := by omega
  have hT : txtI l data = ⟨#[83, 69, 69, 68]⟩ ++ A ++ B := by rw [← hA, ← hB]; rfl
  have z6 : (⟨#[83, 69, 69, 68]⟩ : ByteArray).size + 8 + 4 * l.length ≤ 9223372036854775807 := by show 4 + 8 + 4 * l.length ≤ _; omega
  have z7 : (⟨#[83, 69, 69, 68]⟩ : ByteArray).size + 8 ≤ 9223372036854775807 := by show 4 + 8 ≤ _; omega
  clear hU hl hd
  exact step11
end Go.Proofs.YtaeeffddinppeaaGreatDoor
namespace Go.Proofs.YtaeeffddinppeaaGreatDoor
open Go Go.Ab
theorem byte_data {s : ByteArray} {i : Nat} (h : i < s.size) : ∃ B : UInt8, s.data[i]? = some B ∧ (B.toNat : Int) = byteAt s i := by
  have hlt : i < s.data.size := h
  refine ⟨s.data[i], Array.getElem?_eq_getElem hlt, ?_⟩
  unfold byteAt
  rw [List.getD_eq_getElem?_getD, List.getElem?_eq_getElem (by simpa using hlt)]
  simp
theorem wordAt_U (s : ByteArray) (i : Nat) : U (wordAt s i) := wordAt_range s i
set_option maxHeartbeats 4000000 in
theorem d20 (s : ByteArray) (at_ : Nat) (hs : s.size ≤ 1048576) (ha : at_ + 4 ≤ s.size) : (lim Tryz.prog E47 X47).dat 39 [.sc (.string s), iv at_] = some [uv (wordAt s at_)] := by
  refine fnW Tryz.func39 rfl rfl bodyOk_39 rfl rtys_39 rfl ?_
  obtain ⟨B0, h0, e0⟩ := byte_data (s := s) (i := at_) (by omega)
  obtain ⟨B1, h1, e1⟩ := byte_data (s := s) (i := at_ + 1) (by omega)
  obtain ⟨B2, h2, e2⟩ := byte_data (s := s) (i := at_ + 2) (by omega)
  obtain ⟨B3, h3, e3⟩ := byte_data (s := s) (i := at_ + 3) (by omega)
  have hB0 := B0.toNat_lt
  have hB1 := B1.toNat_lt
  have hB2 := B2.toNat_lt
  have hB3 := B3.toNat_lt
  have hW : wordAt s at_ = B0.toNat + 256 * B1.toNat + 65536 * B2.toNat + 16777216 * B3.toNat := by unfold wordAt; rw [← e0, ← e1, ← e2, ← e3]
  rw [hW]
  clear e0 e1 e2 e3 hW
  have w1 : IntKind.i64.wrap ((at_ : Int) + 1) = (at_ : Int) + 1 := wrap64 (by omega) (by omega)
  have w2 : IntKind.i64.wrap ((at_ : Int) + 2) = (at_ : Int) + 2 := wrap64 (by omega) (by omega)
  have w3 : IntKind.i64.wrap ((at_ : Int) + 3) = (at_ : Int) + 3 := wrap64 (by omega) (by omega)
  have p1 : (0 : Int) ≤ (at_ : Int) + 1 := by omega
  have p2 : (0 : Int) ≤ (at_ : Int) + 2 := by omega
  have p3 : (0 : Int) ≤ (at_ : Int) + 3 := by omega
  have t1 : ((at_ : Int) + 1).toNat = at_ + 1 := by omega
  have t2 : ((at_ : Int) + 2).toNat = at_ + 2 := by omega
  have t3 : ((at_ : Int) + 3).toNat = at_ + 3 := by omega
  have u0 : IntKind.u32.wrap (B0.toNat : Int) = B0.toNat := by rw [IntKind.wrap_u32]; omega
  have u1 : IntKind.u32.wrap (B1.toNat : Int) = B1.toNat := by rw [IntKind.wrap_u32]; omega
  have u2 : IntKind.u32.wrap (B2.toNat : Int) = B2.toNat := by rw [IntKind.wrap_u32]; omega
  have u3 : IntKind.u32.wrap (B3.toNat : Int) = B3.toNat := by rw [IntKind.wrap_u32]; omega
  have m1 : IntKind.u32.wrap (256 * (B1.toNat : Int)) = 256 * B1.toNat := by rw [IntKind.wrap_u32]; omega
  have m2 : IntKind.u32.wrap (65536 * (B2.toNat : Int)) = 65536 * B2.toNat := by rw [IntKind.wrap_u32]; omega
  have m3 : IntKind.u32.wrap (16777216 * (B3.toNat : Int)) = 16777216 * B3.toNat := by rw [IntKind.wrap_u32]; omega
  have a1 : IntKind.u32.wrap ((B0.toNat : Int) + 256 * B1.toNat) = B0.toNat + 256 * B1.toNat := by rw [IntKind.wrap_u32]; omega
  have a2 : IntKind.u32.wrap ((B0.toNat : Int) + 256 * B1.toNat + 65536 * B2.toNat) = B0.toNat + 256 * B1.toNat + 65536 * B2.toNat := by rw [IntKind.wrap_u32]; omega
  have a3 : IntKind.u32.wrap ((B0.toNat : Int) + 256 * B1.toNat + 65536 * B2.toNat + 16777216 * B3.toNat) = B0.toNat + 256 * B1.toNat + 65536 * B2.toNat + 16777216 * B3.toNat := by rw [IntKind.wrap_u32]; omega
  exact step7
theorem byteAt_extract {s : ByteArray} {i : Nat} (a : Nat) (h : a + i < s.size) : byteAt (s.extract a s.size) i = byteAt s (a + i) := by
  unfold byteAt
  rw [ByteArray.data_extract]
  have : s.data.size = s.size := rfl
  congr 2
  simp [List.getD_eq_getElem?_getD]
  rw [List.getElem?_take_of_lt (by omega), List.getElem?_drop]
  simp
theorem codeOf_eq (s : ByteArray) (h : 12 ≤ s.size) : codeOf s = upto (fun k => wordAt s (12 + 4 * k)) ((s.size - 12) / 4) := by
  have hsz : (s.extract 12 s.size).size = s.size - 12 := by rw [ByteArray.size_extract]; omega
  unfold codeOf wordsOf
  rw [hsz]
  unfold upto
  refine List.map_congr_left fun k hk => ?_
  have hk := List.mem_range.1 hk
  have e := fun i (hi : 12 + i < s.size) => byteAt_extract (s := s) (i := i) 12 hi
  unfold wordAt
  rw [e _ (by omega), e _ (by omega), e _ (by omega), e _ (by omega)]
  rfl
theorem seed_iff {s : ByteArray} (h : 12 ≤ s.size) : s.extract 0 4 = ⟨#[83, 69, 69, 68]⟩ ↔ byteAt s 0 = 83 ∧ byteAt s 1 = 69 ∧ byteAt s 2 = 69 ∧ byteAt s 3 = 68 := by
  obtain ⟨B0, h0, e0⟩ := byte_data (s := s) (i := 0) (by omega)
  obtain ⟨B1, h1, e1⟩ := byte_data (s := s) (i := 1) (by omega)
  obtain ⟨B2, h2, e2⟩ := byte_data (s := s) (i := 2) (by omega)
  obtain ⟨B3, h3, e3⟩ := byte_data (s := s) (i := 3) (by omega)
  have hx : s.extract 0 4 = ⟨#[B0, B1, B2, B3]⟩ := by
    apply ByteArray.ext
    rw [ByteArray.data_extract]
    have hd : s.data.size = s.size := rfl
    apply Array.ext
    · simp; omega
    · intro i i1 i2
      have i3 : i < 4 := by simpa using i2
      rw [Array.getElem_extract]
      have g := fun j (hj : j < s.data.size) => Array.getElem?_eq_getElem hj
      match i, i3 with
      | 0, _ => simpa [g 0 (by omega)] using h0
      | 1, _ => simpa [g 1 (by omega)] using h1
      | 2, _ => simpa [g 2 (by omega)] using h2
      | 3, _ => simpa [g 3 (by omega)] using h3
  rw [hx, ← e0, ← e1, ← e2, ← e3]
  have bi : ∀ (B : UInt8) (n : Nat) (hn : n < 256), (B.toNat : Int) = n ↔ B = UInt8.ofNat n := fun B n hn => by
    constructor
    · intro h; apply UInt8.toNat_inj.1; simp; omega
    · intro h; subst h; simp; omega
  constructor
  · intro h
    simp only [ByteArray.mk.injEq] at h
    have := congrArg Array.toList h
    simp at this
    obtain ⟨rfl, rfl, rfl, rfl⟩ := this
    decide
  · rintro ⟨a, b, c, d⟩
    rw [(bi B0 83 (by omega)).1 a, (bi B1 69 (by omega)).1 b, (bi B2 69 (by omega)).1 c, (bi B3 68 (by omega)).1 d]
    rfl
end Go.Proofs.YtaeeffddinppeaaGreatDoor
