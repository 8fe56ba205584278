/- A part of the proof: Vx, Vy. -/
import Derived.Test.YtaeeffddinppeaaGreatDoorR19
import Derived.Test.YtaeeffddinppeaaGreatDoorR40
import Derived.Test.YtaeeffddinppeaaGreatDoorR31
set_option linter.unusedSimpArgs false
set_option linter.unusedVariables false
namespace Go.Proofs.YtaeeffddinppeaaGreatDoor
open Go Go.Ab
attribute [-simp] Prog.bind getCs putCs
attribute [local simp ↓] run_bind
attribute [local simp ↓] runF_bind
attribute [local simp] run_getCsN runF_getCsN facetsC putCs_one run_putCsN runF_putCsN facetsW facetsH
def itoaB (n : Int) : ByteArray := ⟨(Lib.itoa n).toArray⟩
def decB (u : Nat) : ByteArray := ⟨(Lib.decDigits u).toArray⟩
theorem decB_size (u : Nat) (h : u < 18446744073709551616) : (decB u).size ≤ 20 := by
  have e : (decB u).size = Lib.nDigits u := by show ((Lib.decDigits u).toArray).size = _; rw [List.size_toArray, Lib.decDigits_length]
  rw [e]
  by_cases h1 : 1 ≤ u
  · obtain ⟨a, b⟩ := Lib.numDigits_eq u h1 h
    rw [← a]
    split <;> omega
  · obtain rfl : u = 0 := by omega
    rw [Lib.nDigits_small (by omega)]; omega
theorem itoaB_size (n : Int) (h0 : -9223372036854775808 ≤ n) (h1 : n ≤ 9223372036854775807) : (itoaB n).size ≤ 21 := by
  show ((Lib.itoa n).toArray).size ≤ 21
  rw [List.size_toArray]
  unfold Lib.itoa
  split
  · have := decB_size n.natAbs (by omega)
    have e : (decB n.natAbs).size = (Lib.decDigits n.natAbs).length := by show ((Lib.decDigits _).toArray).size = _; rw [List.size_toArray]
    rw [List.length_cons]; omega
  · have := decB_size n.toNat (by omega)
    have e : (decB n.toNat).size = (Lib.decDigits n.toNat).length := by show ((Lib.decDigits _).toArray).size = _; rw [List.size_toArray]
    omega
theorem decB_one (u : Nat) (h : u < 10) : decB u = ⟨#[UInt8.ofNat (48 + u)]⟩ := by unfold decB; rw [Lib.decDigits_one h]
theorem decB_more (u : Nat) (h : ¬ u < 10) : decB u = decB (u / 10) ++ decB (u % 10) := by
  apply ByteArray.ext
  apply Array.ext'
  rw [ByteArray.data_append, Array.toList_append]
  show (Lib.decDigits u) = Lib.decDigits (u / 10) ++ Lib.decDigits (u % 10)
  rw [Lib.decDigits, dif_neg h, Lib.decDigits_one (i := u % 10) (by omega)]
theorem g53 (n : Int) (h0 : -9223372036854775808 ≤ n) (h1 : n ≤ 9223372036854775807) : (lim Tryz.prog E47 X47).dat 53 [iv n] = some [.sc (.string (itoaB n))] := by
  refine lim_dat.2 ⟨0, ?_⟩
  show X47.dat 53 _ = _
  simp only [X47]
  rw [if_neg (by decide), if_neg (by decide), if_pos trivial]
  simp [itoaO, iv, h0, h1, itoaB]
theorem g54s : ∀ k : Fin 10, (lim Tryz.prog E47 X47).dat 54 [iv ((k.val : Nat) : Int)] = some [.sc (.string (decB k.val))] := by
  intro k
  rw [decB_one k.val k.isLt]
  match k with
  | ⟨0, _⟩ => exact lim_dat.2 ⟨40, by kernel_rfl⟩
  | ⟨1, _⟩ => exact lim_dat.2 ⟨40, by kernel_rfl⟩
  | ⟨2, _⟩ => exact lim_dat.2 ⟨40, by kernel_rfl⟩
  | ⟨3, _⟩ => exact lim_dat.2 ⟨40, by kernel_rfl⟩
  | ⟨4, _⟩ => exact lim_dat.2 ⟨40, by kernel_rfl⟩
  | ⟨5, _⟩ => exact lim_dat.2 ⟨40, by kernel_rfl⟩
  | ⟨6, _⟩ => exact lim_dat.2 ⟨40, by kernel_rfl⟩
  | ⟨7, _⟩ => exact lim_dat.2 ⟨40, by kernel_rfl⟩
  | ⟨8, _⟩ => exact lim_dat.2 ⟨40, by kernel_rfl⟩
  | ⟨9, _⟩ => exact lim_dat.2 ⟨40, by kernel_rfl⟩
def negOf (n : Int) (u : Nat) : Prop := n = -(u : Int)
theorem decB_more' (u : Nat) (h : ¬ u < 10) : decB u = decB (u / 10) ++ ⟨#[UInt8.ofNat (48 + u % 10)]⟩ := by
  rw [decB_more u h, decB_one (u % 10) (by omega)]
def tailOf (u0 u : Nat) (R : ByteArray) : Prop := 1 ≤ u ∧ u ≤ u0 ∧ u0 ≤ 9223372036854775808 ∧ decB u0 = decB u ++ R
theorem tailOf.size {u0 u : Nat} {R : ByteArray} (h : tailOf u0 u R) : R.size ≤ 20 := by
  have h1 := decB_size u0 (by have := h.2.2.1; omega)
  rw [h.2.2.2, ByteArray.size_append] at h1
  omega
theorem tailOf.next {u0 u : Nat} {R : ByteArray} (h : tailOf u0 u R) (hu : ¬ u < 10) : tailOf u0 (u / 10) (⟨#[UInt8.ofNat (48 + u % 10)]⟩ ++ R) := by
  obtain ⟨h1, h2, h3, h4⟩ := h
  refine ⟨by omega, by omega, h3, ?_⟩
  rw [h4, decB_more' u hu, ByteArray.append_assoc]
set_option maxHeartbeats 4000000 in
theorem g54p : ∀ k : Nat, k ≤ 9223372036854775807 → (lim Tryz.prog E47 X47).dat 54 [iv (k : Int)] = some [.sc (.string (decB k))] := by
  intro k
  induction k using Nat.strongRecOn with
  | _ k ih =>
    intro hk
    by_cases h10 : k < 10
    · exact g54s ⟨k, h10⟩
    have i1 := ih (k / 10) (by omega) (by omega)
    have i2 := ih (k % 10) (by omega) (by omega)
    clear ih
    have z1 := decB_size (k / 10) (by omega)
    have z2 := decB_size (k % 10) (by omega)
    rw [decB_more k h10]
    generalize decB (k / 10) = A at *
    generalize decB (k % 10) = B at *
    have z3 : A.size + B.size ≤ 9223372036854775807 := by omega
    clear z1 z2
    obtain ⟨q, hq⟩ : ∃ q : Int, q = ((k / 10 : Nat) : Int) := ⟨_, rfl⟩
    obtain ⟨r, hr⟩ : ∃ r : Int, r = ((k % 10 : Nat) : Int) := ⟨_, rfl⟩
    rw [← hq] at i1
    rw [← hr] at i2
    obtain ⟨n, hn⟩ : ∃ n : Int, n = (k : Int) := ⟨_, rfl⟩
    rw [← hn]
    have e1 : IntKind.i64.wrap (n.tdiv 10) = q := by rw [hn, Int.tdiv_eq_ediv_of_nonneg (by omega), IntKind.wrap_i64]; omega
    have e2 : n.tmod 10 = r := by rw [hn, Int.tmod_eq_emod_of_nonneg (by omega)]; omega
    have e3 : ¬ n < 0 := by omega
    have e4 : ¬ n < 10 := by omega
    clear hn hq hr h10 hk
    refine fnW Tryz.func54 rfl rfl bodyOk_54 rfl rtys_54 rfl ?_
    exact step0
set_option maxHeartbeats 4000000 in
theorem g54n (n0 : Int) (hn0 : n0 < 0) (hn1 : -9223372036854775808 ≤ n0) : (lim Tryz.prog E47 X47).dat 54 [iv n0] = some [.sc (.string (itoaB n0))] := by
  have hI : itoaB n0 = ⟨#[45]⟩ ++ decB n0.natAbs := by
    apply ByteArray.ext
    apply Array.ext'
    rw [ByteArray.data_append, Array.toList_append]
    show Lib.itoa n0 = [45] ++ Lib.decDigits n0.natAbs
    unfold Lib.itoa
    rw [if_pos hn0]; rfl
  have hst : tailOf n0.natAbs n0.natAbs ⟨#[]⟩ := ⟨by omega, Nat.le_refl _, by omega, by
    apply ByteArray.ext
    apply Array.ext'
    rw [ByteArray.data_append, Array.toList_append]
    simp⟩
  have hng : negOf n0 n0.natAbs := by unfold negOf; omega
  generalize hu0 : n0.natAbs = u0 at *
  clear hu0
  rw [hI]
  clear hI
  refine fnW Tryz.func54 rfl rfl bodyOk_54 rfl rtys_54 rfl ?_
  refine sgo0 ?_
  refine W_loopS (n := u0) (fun s0 m q => ∃ (n : Int) (u : Nat) (R : ByteArray), m = u ∧ negOf n u ∧ tailOf u0 u R ∧ q.fr 0 = iv n ∧ q.fr 3 = .sc (.string R)) ⟨n0, u0, ⟨#[]⟩, rfl, hng, hst, by simp, by simp⟩ ?_
  rintro u ⟨fr, hp⟩ ⟨n, _, R, rfl, hn, ht, hs0, hs3⟩
  simp at hs0 hs3
  have hsz := ht.size
  have hnu : n = -(u : Int) := hn
  have hu1 := ht.1
  have hu2 := ht.2.1
  have hu3 := ht.2.2.1
  obtain ⟨c, hc⟩ : ∃ c : UInt8, c = UInt8.ofNat (48 + u % 10) := ⟨_, rfl⟩
  by_cases hle : n ≤ -10
  · have hx := ht.next (by omega)
    rw [← hc] at hx
    obtain ⟨r, hr⟩ : ∃ r : Int, n.tmod 10 = r := ⟨_, rfl⟩
    have hr' : r = -((u % 10 : Nat) : Int) := by rw [← hr, hnu, Int.neg_tmod, Int.tmod_eq_emod_of_nonneg (by omega)]; omega
    obtain ⟨a, ha⟩ : ∃ a : Int, IntKind.i64.wrap (48 - r) = a := ⟨_, rfl⟩
    have ha' : a = ((48 + u % 10 : Nat) : Int) := by rw [← ha, hr', IntKind.wrap_i64]; omega
    obtain ⟨b, hb⟩ : ∃ b : Int, IntKind.u8.wrap a = b := ⟨_, rfl⟩
    have hb' : b = ((48 + u % 10 : Nat) : Int) := by rw [← hb, ha', IntKind.wrap_u8]; omega
    have hbc : UInt8.ofNat b.toNat = c := by rw [hb', hc]; rfl
    obtain ⟨n2, hq⟩ : ∃ n2 : Int, IntKind.i64.wrap (n.tdiv 10) = n2 := ⟨_, rfl⟩
    have hn2 : negOf n2 (u / 10) := by
      unfold negOf
      rw [← hq, hnu, Int.neg_tdiv, Int.tdiv_eq_ediv_of_nonneg (by omega), IntKind.wrap_i64]; omega
    have hR1 : 1 + R.size ≤ 9223372036854775807 := by omega
    have hs1 : ∀ a : UInt8, ByteArray.size ⟨#[a]⟩ = 1 := fun _ => rfl
    have hs2 : ∀ a : UInt8, ByteArray.size ⟨⟨[a]⟩⟩ = 1 := fun _ => rfl
    have hlt : u / 10 < u := by omega
    clear hr' ha' hb' hnu hu1 hu2 hu3 hc ht hn hst hng hn0 hn1 hsz
    repeat' (first | ((with_reducible first | apply Wo_u | apply Wo_n | apply ex2 | apply W_sc | apply W_c | apply Wd_u | apply Wd_n | apply ex4 | apply EndQ_ret | apply EndQ_normal); (conv => lhs; simp -implicitDefEqProofs [*]) <;> exact rfl) | (with_reducible first | apply Wo_nil | apply W_ss | apply W_srl | apply W_rl | apply W_sblock | apply W_block | apply W_sskip | apply W_skip | apply W_sret | apply W_ret | apply W_sexit | apply W_exit | apply thenW_n | apply thenW_r | apply thenW_e | apply inB_n | apply inB_r | apply inB_e) | ((with_reducible apply Wo_gt); (exact rfl); ((conv => lhs; simp -implicitDefEqProofs [*]) <;> exact rfl); (conv => lhs; simp -implicitDefEqProofs [*]) <;> exact rfl) | ((with_reducible apply Wo_gf); (exact rfl); ((conv => lhs; simp -implicitDefEqProofs [*]) <;> exact rfl); (exact rfl)) | ((with_reducible apply Wo_gx); (exact rfl); ((conv => lhs; simp -implicitDefEqProofs [*]) <;> exact rfl)) | ((with_reducible apply Wo_gsT); (exact rfl); ((conv => lhs; simp -implicitDefEqProofs [*]) <;> exact rfl)) | ((with_reducible apply Wo_gsF); (exact rfl); ((conv => lhs; simp -implicitDefEqProofs [*]) <;> exact rfl)) | ((with_reducible apply Wd_gsT); (exact rfl); ((conv => lhs; simp -implicitDefEqProofs [*]) <;> exact rfl)) | ((with_reducible apply Wd_gsF); (exact rfl); ((conv => lhs; simp -implicitDefEqProofs [*]) <;> exact rfl)) | ((with_reducible first | apply W_srdl | apply W_rdl); kernel_rfl) | ((with_reducible apply Wd_nil); kernel_rfl) | ((with_reducible apply inB_o); rotate_left; exact rfl) | (intro h h'; try simp [*, -h] at h') | ((with_reducible apply Wd_gx); (exact rfl); ((conv => lhs; simp -implicitDefEqProofs [*]) <;> exact rfl)))
    all_goals exact ⟨_, hlt, n2, u / 10, _, rfl, hn2, hx, by simp [*], by simp [*]⟩
  · have hu10 : u < 10 := by omega
    have hres : (⟨#[45]⟩ : ByteArray) ++ ⟨#[c]⟩ ++ R = ⟨#[45]⟩ ++ decB u0 := by
      rw [ht.2.2.2, decB_one u hu10, hc, Nat.mod_eq_of_lt hu10, ByteArray.append_assoc]
    obtain ⟨a, ha⟩ : ∃ a : Int, IntKind.i64.wrap (48 - n) = a := ⟨_, rfl⟩
    have ha' : a = ((48 + u % 10 : Nat) : Int) := by rw [← ha, hnu, IntKind.wrap_i64]; omega
    obtain ⟨b, hb⟩ : ∃ b : Int, IntKind.u8.wrap a = b := ⟨_, rfl⟩
    have hb' : b = ((48 + u % 10 : Nat) : Int) := by rw [← hb, ha', IntKind.wrap_u8]; omega
    have hbc : UInt8.ofNat b.toNat = c := by rw [hb', hc]; rfl
    have hR1 : 2 + R.size ≤ 9223372036854775807 := by omega
    have hR2 : 1 + 1 + R.size ≤ 9223372036854775807 := by omega
    have hs1 : ∀ a : UInt8, ByteArray.size ⟨#[a]⟩ = 1 := fun _ => rfl
    have hs2 : ∀ a : UInt8, ByteArray.size ⟨⟨[a]⟩⟩ = 1 := fun _ => rfl
    rw [← hres]
    clear hres ha' hb' hnu hu1 hu2 hu3 hc ht hn hst hng hn0 hn1 hsz hu10
    exact step0
theorem g54 (n : Int) (h0 : -9223372036854775808 ≤ n) (h1 : n ≤ 9223372036854775807) : (lim Tryz.prog E47 X47).dat 54 [iv n] = some [.sc (.string (itoaB n))] := by
  by_cases hn : n < 0
  · exact g54n n hn h0
  · have e : itoaB n = decB n.toNat := by unfold itoaB decB Lib.itoa; rw [if_neg hn]
    have := g54p n.toNat (by omega)
    rw [e, ← this, Int.toNat_of_nonneg (by omega)]
def txtR (a b c : Int) : ByteArray := if a = 0 then ⟨#[97, 99, 99, 101, 112, 116, 101, 100]⟩ else if a = 12 then ⟨#[112, 97, 114, 101, 110, 116, 32]⟩ ++ itoaB b ++ ⟨#[58, 32, 110, 111, 32, 114, 117, 110]⟩ else if a = 8 then ⟨#[112, 97, 114, 101, 110, 116, 32]⟩ ++ itoaB b ++ ⟨#[58, 32, 98, 121, 116, 101, 32]⟩ ++ itoaB c else ⟨#[101, 114, 114, 111, 114, 32]⟩ ++ itoaB a
set_option maxHeartbeats 4000000 in
theorem g28 (a b c : Int) (a0 : -9223372036854775808 ≤ a) (a1 : a ≤ 9223372036854775807) (b0 : -9223372036854775808 ≤ b) (b1 : b ≤ 9223372036854775807) (c0 : -9223372036854775808 ≤ c) (c1 : c ≤ 9223372036854775807)  : (lim Tryz.prog E47 X47).dat 28 [.agg [iv a, iv b, iv c]] = some [.sc (.string (txtR a b c))] := by
  refine fnW Tryz.func28 rfl rfl bodyOk_28 rfl rtys_28 rfl ?_
  have ha := g53 a a0 a1
  have hb := g53 b b0 b1
  have hc := g53 c c0 c1
  have za := itoaB_size a a0 a1
  have zb := itoaB_size b b0 b1
  have zc := itoaB_size c c0 c1
  unfold txtR
  generalize itoaB a = A at *
  generalize itoaB b = B at *
  generalize itoaB c = C at *
  have q0 := beq_dec a 0
  have q12 := beq_dec a 12
  have q8 := beq_dec a 8
  have m1 : 6 + A.size ≤ 9223372036854775807 := by omega
  have m2 : 7 + B.size ≤ 9223372036854775807 := by omega
  have m3 : 7 + B.size + 8 ≤ 9223372036854775807 := by omega
  have m4 : 7 + B.size + 7 ≤ 9223372036854775807 := by omega
  have m5 : 7 + B.size + 7 + C.size ≤ 9223372036854775807 := by omega
  have L1 : ByteArray.size ⟨#[112, 97, 114, 101, 110, 116, 32]⟩ = 7 := rfl
  have L2 : ByteArray.size ⟨#[58, 32, 110, 111, 32, 114, 117, 110]⟩ = 8 := rfl
  have L3 : ByteArray.size ⟨#[58, 32, 98, 121, 116, 101, 32]⟩ = 7 := rfl
  have L4 : ByteArray.size ⟨#[101, 114, 114, 111, 114, 32]⟩ = 6 := rfl
  clear a0 a1 b0 b1 c0 c1 za zb zc
  by_cases h0 : a = 0
  · subst h0
    simp only [if_true]
    simp at q0 q12 q8
    exact step0
  by_cases h12 : a = 12
  · subst h12
    simp at q0 q12 q8
    simp only [if_neg h0, if_true]
    exact step0
  by_cases h8 : a = 8
  · subst h8
    simp at q0 q12 q8
    simp only [if_neg h0, if_neg h12, if_true]
    exact step0
  simp only [h0, h12, h8, decide_false] at q0 q12 q8
  simp only [if_neg h0, if_neg h12, if_neg h8]
  exact step0
set_option maxHeartbeats 4000000 in
theorem g29 (a b c : Int) (a0 : -9223372036854775808 ≤ a) (a1 : a ≤ 9223372036854775807) (b0 : -9223372036854775808 ≤ b) (b1 : b ≤ 9223372036854775807) (c0 : -9223372036854775808 ≤ c) (c1 : c ≤ 9223372036854775807)  : (lim Tryz.prog E47 X47).dat 29 [.agg [iv a, iv b, iv c]] = some [.sc (.string (txtR a b c))] := by
  refine fnW Tryz.func29 rfl rfl bodyOk_29 rfl rtys_29 rfl ?_
  have ha := g54 a a0 a1
  have hb := g54 b b0 b1
  have hc := g54 c c0 c1
  have za := itoaB_size a a0 a1
  have zb := itoaB_size b b0 b1
  have zc := itoaB_size c c0 c1
  unfold txtR
  generalize itoaB a = A at *
  generalize itoaB b = B at *
  generalize itoaB c = C at *
  have q0 := beq_dec a 0
  have q12 := beq_dec a 12
  have q8 := beq_dec a 8
  have m1 : 6 + A.size ≤ 9223372036854775807 := by omega
  have m2 : 7 + B.size ≤ 9223372036854775807 := by omega
  have m3 : 7 + B.size + 8 ≤ 9223372036854775807 := by omega
  have m4 : 7 + B.size + 7 ≤ 9223372036854775807 := by omega
  have m5 : 7 + B.size + 7 + C.size ≤ 9223372036854775807 := by omega
  have L1 : ByteArray.size ⟨#[112, 97, 114, 101, 110, 116, 32]⟩ = 7 := rfl
  have L2 : ByteArray.size ⟨#[58, 32, 110, 111, 32, 114, 117, 110]⟩ = 8 := rfl
  have L3 : ByteArray.size ⟨#[58, 32, 98, 121, 116, 101, 32]⟩ = 7 := rfl
  have L4 : ByteArray.size ⟨#[101, 114, 114, 111, 114, 32]⟩ = 6 := rfl
  clear a0 a1 b0 b1 c0 c1 za zb zc
  by_cases h0 : a = 0
  · subst h0
    simp only [if_true]
    simp at q0 q12 q8
    exact step0
  by_cases h12 : a = 12
  · subst h12
    simp at q0 q12 q8
    simp only [if_neg h0, if_true]
    exact step0
  by_cases h8 : a = 8
  · subst h8
    simp at q0 q12 q8
    simp only [if_neg h0, if_neg h12, if_true]
    exact step0
  simp only [h0, h12, h8, decide_false] at q0 q12 q8
  simp only [if_neg h0, if_neg h12, if_neg h8]
  exact step0
end Go.Proofs.YtaeeffddinppeaaGreatDoor
namespace Go.Proofs.YtaeeffddinppeaaGreatDoor
open Go Go.Ab
attribute [-simp] Prog.bind getCs putCs
attribute [local simp ↓] run_bind
attribute [local simp ↓] runF_bind
attribute [local simp] run_getCsN runF_getCsN facetsC putCs_one run_putCsN runF_putCsN facetsW facetsH
def fixB (src img : ByteArray) (fuel : Int) : Bool := decide (goodI img src fuel = some img)
set_option maxHeartbeats 4000000 in
theorem g26 (src img : ByteArray) (fuel : Int) (hm : img.size ≤ 1048576) (hs : src.size ≤ 1048576) (hf : fuel ≤ 4611686018427387903)  : (lim Tryz.prog E47 X47).dat 26 [.sc (.string src), .sc (.string img), iv fuel] = some [bv (fixB src img fuel)] := by
  refine fnW Tryz.func26 rfl rfl bodyOk_26 rfl rtys_26 rfl ?_
  have h52 := g52 img src fuel hm hs hf
  unfold fixB
  generalize goodI img src fuel = r at *
  clear hm hs hf
  cases r with
  | none =>
    simp only [resT] at h52
    exact step0
  | some o =>
    simp only [resT] at h52
    by_cases he : o = img
    · subst he
      exact step17
    · have he' : ¬ (some o = some img) := fun h => he (Option.some.inj h)
      exact step18
set_option maxHeartbeats 4000000 in
theorem g27 (src img : ByteArray) (fuel : Int) (hm : img.size ≤ 1048576) (hs : src.size ≤ 1048576) (hf : fuel ≤ 4611686018427387903)  : (lim Tryz.prog E47 X47).dat 27 [.sc (.string src), .sc (.string img), iv fuel] = some [bv (fixB src img fuel)] := by
  refine fnW Tryz.func27 rfl rfl bodyOk_27 rfl rtys_27 rfl ?_
  have h25 := s25 img src fuel hm hs (by omega)
  unfold bytesR at h25
  unfold fixB goodI
  generalize outT (stI img src fuel).out = OT at *
  generalize endI (stI img src fuel) = EN at *
  generalize (stI img src fuel).steps = ST at *
  clear hm hs hf
  cases hb : imgB img with
  | false =>
    rw [hb] at h25
    simp only [Bool.false_eq_true, if_false] at h25
    exact step17
  | true =>
    rw [hb] at h25
    simp only [if_true] at h25
    have hq := beq_dec EN 1
    by_cases h1 : EN = 1
    · subst h1
      by_cases he : OT = img
      · subst he
        exact step17
      · have he' : ¬ (some OT = some img) := fun h => he (Option.some.inj h)
        exact step18
    · simp only [h1, decide_false] at hq
      exact step18
set_option maxHeartbeats 4000000 in
theorem g7 (src img : ByteArray) (a b c : Int) (a0 : -9223372036854775808 ≤ a) (a1 : a ≤ 9223372036854775807) (b0 : -9223372036854775808 ≤ b) (b1 : b ≤ 9223372036854775807) (c0 : -9223372036854775808 ≤ c) (c1 : c ≤ 9223372036854775807)  : (lim Tryz.prog E47 X47).dat 7 [.sc (.string src), .sc (.string img), .agg [iv a, iv b, iv c]] = some [bv true] := by
  refine fnW Tryz.func7 rfl rfl bodyOk_7 rfl rtys_7 rfl ?_
  have h20 := g20
  have h28 := g28 a b c a0 a1 b0 b1 c0 c1
  have h29 := g29 a b c a0 a1 b0 b1 c0 c1
  clear a0 a1 b0 b1 c0 c1
  generalize txtR a b c = T at *
  by_cases h1 : (400 : Int) < src.size
  · have h1' := h1
    exact step0
  by_cases h2 : (4000 : Int) < img.size
  · skip
    exact step0
  have h26 := g26 src img 5000 (by omega) (by omega) (by decide)
  have h27 := g27 src img 5000 (by omega) (by omega) (by decide)
  generalize fixB src img 5000 = F at *
  exact step17
end Go.Proofs.YtaeeffddinppeaaGreatDoor
