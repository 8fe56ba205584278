/- A part of the proof: Ke. -/
import Derived.Test.YtaeeffddinppeaaGreatDoorR23
import Derived.Lib.Hide
set_option linter.unusedSimpArgs false
set_option linter.unusedVariables false
namespace Go.Proofs.YtaeeffddinppeaaGreatDoor
open Go Go.Ab
set_option maxHeartbeats 16000000 in
theorem d9 (s : ByteArray) (hs : s.size ≤ 1048576) : (lim Tryz.prog E47 X47).dat 15 [.sc (.string s)] = some (readR s) := by
  refine fnW Tryz.func15 rfl rfl bodyOk_15 rfl rtys_15 rfl ?_
  have hb1 : IntKind.i64.wrap 12 = 12 := by decide +kernel
  by_cases c0 : s.size < 12
  · have hr : readR s = [.agg [.vec 1 [], iv 0], iv 7] := by
      unfold readR; rw [if_neg]; intro h; have := ((imgB_iff s).1 h).1; omega
    have c1 : (s.size : Int) < 12 := by omega
    rw [hr]
    exact step7
  have c1 : ¬ (s.size : Int) < 12 := by omega
  obtain ⟨B0, h0, e0⟩ := byte_data (s := s) (i := 0) (by omega)
  obtain ⟨B1, h1, e1⟩ := byte_data (s := s) (i := 1) (by omega)
  obtain ⟨B2, h2, e2⟩ := byte_data (s := s) (i := 2) (by omega)
  obtain ⟨B3, h3, e3⟩ := byte_data (s := s) (i := 3) (by omega)
  by_cases d : byteAt s 0 = 83 ∧ byteAt s 1 = 69 ∧ byteAt s 2 = 69 ∧ byteAt s 3 = 68
  rotate_left
  · have hr : readR s = [.agg [.vec 1 [], iv 0], iv 7] := by
      unfold readR; rw [if_neg]; intro h; exact d ((seed_iff (by omega)).1 ((imgB_iff s).1 h).2.1)
    rw [hr]
    rw [← e0, ← e1, ← e2, ← e3] at d
    clear e0 e1 e2 e3 hr
    by_cases g0 : B0.toNat = 83
    · by_cases g1 : B1.toNat = 69
      · by_cases g2 : B2.toNat = 69
        · have g3 : ¬ B3.toNat = 68 := fun g3 => d ⟨by omega, by omega, by omega, by omega⟩
          have k3 : ¬ (B3.toNat : Int) = 68 := by omega
          clear d
          exact step7
        · have k2 : ¬ (B2.toNat : Int) = 69 := by omega
          clear d
          exact step7
      · have k1 : ¬ (B1.toNat : Int) = 69 := by omega
        clear d
        exact step7
    · have k0 : ¬ (B0.toNat : Int) = 83 := by omega
      clear d
      exact step7
  obtain ⟨d0, d1, d2, d3⟩ := d
  have g0 : B0.toNat = 83 := by omega
  have g1 : B1.toNat = 69 := by omega
  have g2 : B2.toNat = 69 := by omega
  have g3 : B3.toNat = 68 := by omega
  have hseed := (seed_iff (s := s) (by omega)).2 ⟨d0, d1, d2, d3⟩
  clear e0 e1 e2 e3 d0 d1 d2 d3
  have h4 := d20 s 4 hs (by omega)
  have h8 := d20 s 8 hs (by omega)
  simp only [Int.cast_ofNat_Int] at h4 h8
  have u4 := wordAt_U s 4
  have u8 := wordAt_U s 8
  unfold U at u4 u8
  have hco : codeOf s = upto (fun k => wordAt s (12 + 4 * k)) ((s.size - 12) / 4) := codeOf_eq s (by omega)
  have hR : readR s = if 32768 < wordAt s 8 ∨ 16384 < wordAt s 4 ∨ ¬ (s.size : Int) = 12 + 4 * wordAt s 4 then [.agg [.vec 1 [], iv 0], iv 7] else [.agg [.vec 1 (rowW (codeOf s)), iv (wordAt s 8)], iv 0] := by
    unfold readR
    by_cases hb : imgB s = true
    · have hi := (imgB_iff s).1 hb
      rw [if_pos hb, if_neg]
      have := hi.2.2.1
      have := hi.2.2.2.1
      have := hi.2.2.2.2
      omega
    · rw [if_neg hb, if_pos]
      by_cases z1 : 32768 < wordAt s 8
      · exact .inl z1
      · by_cases z2 : 16384 < wordAt s 4
        · exact .inr (.inl z2)
        · right; right; intro z3
          exact hb ((imgB_iff s).2 ⟨by omega, hseed, by omega, by omega, z3⟩)
  generalize hx4 : wordAt s 4 = x4 at h4 u4 hR
  generalize hx8 : wordAt s 8 = x8 at h8 u8 hR
  have w4 : IntKind.i64.wrap x4 = x4 := wrap64 (by omega) (by omega)
  have w8 : IntKind.i64.wrap x8 = x8 := wrap64 (by omega) (by omega)
  have m4 : IntKind.i64.wrap (4 * x4) = 4 * x4 := wrap64 (by omega) (by omega)
  have m12 : IntKind.i64.wrap (12 + 4 * x4) = 12 + 4 * x4 := wrap64 (by omega) (by omega)
  clear hseed hx4 hx8
  by_cases z2 : 16384 < x4
  · rw [if_pos (.inr (.inl z2))] at hR
    rw [hR]
    clear hR hco
    exact step7
  by_cases z1 : 32768 < x8
  · rw [if_pos (.inl z1)] at hR
    rw [hR]
    clear hR hco
    exact step7
  by_cases z3 : (s.size : Int) = 12 + 4 * x4
  rotate_left
  · rw [if_pos (.inr (.inr z3))] at hR
    rw [hR]
    clear hR hco
    exact step7
  rw [if_neg (by omega)] at hR
  rw [hR, hco]
  obtain ⟨n, hn⟩ : ∃ n : Nat, x4 = n := ⟨x4.toNat, by omega⟩
  subst hn
  have hsz : s.size = 12 + 4 * n := by omega
  rw [show (s.size - 12) / 4 = n by omega]
  have z4 : ((s.size : Int) != 12 + 4 * (n : Int)) = false := by simp [z3]
  have Z3 := Lib.hid z3
  have HS := Lib.hid hsz
  clear hR hco z3 hsz
  refine sgo1 ?_
  refine W_loopS (n := n) (fun s0 m q => ∃ k g : Nat, m = n - k ∧ k ≤ n ∧ q.fr 7 = iv k ∧ q.fr 0 = s0.fr 0 ∧ q.fr 4 = s0.fr 4 ∧ q.fr 2 = s0.fr 2 ∧ q.fr 6 = s0.fr 6 ∧ q.hp ⟨0, 2, 0⟩ = s0.hp ⟨0, 2, 0⟩ ∧ q.hp ⟨0, 2, 1⟩ = s0.hp ⟨0, 2, 1⟩ ∧ q.hp ⟨0, 6, 0⟩ = .box (s0.hp ⟨0, 6, 0⟩).gen [.own ⟨0, 6, 1⟩ g k, iv x8] false ∧ q.hp ⟨0, 6, 1⟩ = .arr g 1 32 (rowW (upto (fun k => wordAt s (12 + 4 * k)) k)) false) ⟨0, 2, by simp, by omega, by simp, by simp, by simp, by simp, by simp, by simp, by simp, by simp, by simp [upto]⟩ ?_
  rintro m ⟨fr, hp⟩ ⟨k, g, rfl, hk, hs7, hs0, hs4, hs2, hs6, hh2, hh21, hh6, hh61⟩
  simp at hs7 hs0 hs4 hs2 hs6 hh2 hh21 hh6 hh61
  have hul : (upto (fun k => wordAt s (12 + 4 * k)) k).length = k := upto_length _ _
  by_cases hlt : k < n
  · have hw := wrapN (k := k) (by omega)
    have hlI : (k : Int) < n := by omega
    have q4 : IntKind.i64.wrap (4 * (k : Int)) = 4 * k := wrap64 (by omega) (by omega)
    have q12 : IntKind.i64.wrap (12 + 4 * (k : Int)) = 12 + 4 * (k : Int) := wrap64 (by omega) (by omega)
    have hd := d20 s (12 + 4 * k) hs (by have := HS.out; omega)
    simp only [Int.natCast_add, Int.natCast_mul, Int.cast_ofNat_Int] at hd
    have hap : rowW (upto (fun k => wordAt s (12 + 4 * k)) k) ++ [[uv (wordAt s (12 + 4 * k))]] = rowW (upto (fun k => wordAt s (12 + 4 * k)) (k + 1)) := by rw [upto_succ]; simp
    have b1 : (k + 1) * 4 ≤ 140737488355328 := by omega
    have b2 : k ≤ 9223372036854775806 := by omega
    refine sgo1 ?_
    exact ⟨_, by omega, k + 1, g + 1, rfl, hlt, by simp, by simp [*], by simp [*], by simp [*], by simp [*], by simp [*], by simp [*], by simp [*], by simp [*]⟩
  · obtain rfl : k = n := by omega
    have htk : (rowW (upto (fun k => wordAt s (12 + 4 * k)) k)).take k = rowW (upto (fun k => wordAt s (12 + 4 * k)) k) := List.take_of_length_le (by simp [hul])
    exact step7
end Go.Proofs.YtaeeffddinppeaaGreatDoor
