/- Law 47: one-time signatures, walked. -/
import Derived.Test.YtdokejnokhicbaaGreatDoorP5
import Derived.Test.YtdokejnokhicbaaGreatDoorK3
namespace Go.Proofs.YtdokejnokhicbaaGreatDoor
open Go Go.Ab
set_option linter.unusedSimpArgs false
set_option linter.unusedVariables false
theorem X47_le : X47.le (lim Tryz.prog E47 X47) := ⟨fun f a r h => lim_dat.2 ⟨0, h⟩, fun k d f a hp r h => lim_hpc.2 ⟨0, h⟩⟩
theorem run47 {n f : Nat} {a r : List AV} (h : (evCall Tryz.prog E47 X47 n).dat f a = some r) : (lim Tryz.prog E47 X47).dat f a = some r := lim_dat.2 ⟨n, h⟩
/-! ### as the operations give them -/
def rawD (w : Int) (k : Nat) : Int := IntKind.i64.wrap (IntKind.u32.wrap ((BitVec.ofInt IntKind.u32.bits (w.fdiv (2 ^ min k IntKind.u32.bits)) &&& BitVec.ofInt IntKind.u32.bits 15).toNat))
def rawSum (l : List Int) : Int := l.foldl (fun s d => IntKind.i64.wrap (s + IntKind.i64.wrap (15 - d))) 0
def rawE (s : Int) (k : Nat) : Int := IntKind.i64.wrap ((BitVec.ofInt IntKind.i64.bits (s.fdiv (2 ^ min k IntKind.i64.bits)) &&& BitVec.ofInt IntKind.i64.bits 15).toNat)
def rawF (s : Int) : Int := IntKind.i64.wrap ((BitVec.ofInt IntKind.i64.bits s &&& BitVec.ofInt IntKind.i64.bits 15).toNat)
def atsP : List Nat := [28, 24, 20, 16, 12, 8, 4, 0]
def rawDs (m : D4) : List Int := atsP.map (rawD m.d0) ++ (atsP.map (rawD m.d1) ++ (atsP.map (rawD m.d2) ++ atsP.map (rawD m.d3)))
def rawSteps (m : D4) : List Int := rawDs m ++ [rawE (rawSum (rawDs m)) 8, rawE (rawSum (rawDs m)) 4, rawF (rawSum (rawDs m))]
set_option maxRecDepth 100000 in
set_option maxHeartbeats 4000000 in
theorem e63r (m : D4) : (lim Tryz.prog E47 X47).dat 65 [.agg m.row] = some [.vec 1 ((rawSteps m).map fun n => [iv n])] := run47 (n := 200) (by kernel_rfl)
/-! ### plainly -/
def digN (w : Int) (k : Nat) : Nat := (w / 2 ^ k % 16).toNat
def digsP (m : D4) : List Nat := atsP.map (digN m.d0) ++ (atsP.map (digN m.d1) ++ (atsP.map (digN m.d2) ++ atsP.map (digN m.d3)))
def sumN (l : List Nat) (s : Nat) : Nat := l.foldl (fun s d => s + (15 - d)) s
def stepsP (m : D4) : List Nat := digsP m ++ [sumN (digsP m) 0 / 256 % 16, sumN (digsP m) 0 / 16 % 16, sumN (digsP m) 0 % 16]
theorem and15 (x : Nat) : x &&& 15 = x % 16 := Nat.and_two_pow_sub_one_eq_mod x 4
theorem and32 (v : Int) : ((BitVec.ofInt 32 v &&& BitVec.ofInt 32 15).toNat : Int) = v % 16 := by
  rw [BitVec.toNat_and, BitVec.toNat_ofInt, BitVec.toNat_ofInt]
  have e : ((15 : Int) % ((2 ^ 32 : Nat) : Int)).toNat = 15 := by decide +kernel
  rw [e, and15]
  have : ((2 ^ 32 : Nat) : Int) = 4294967296 := by decide +kernel
  rw [this]
  omega
theorem and64 (v : Int) : ((BitVec.ofInt 64 v &&& BitVec.ofInt 64 15).toNat : Int) = v % 16 := by
  rw [BitVec.toNat_and, BitVec.toNat_ofInt, BitVec.toNat_ofInt]
  have e : ((15 : Int) % ((2 ^ 64 : Nat) : Int)).toNat = 15 := by decide +kernel
  rw [e, and15]
  have : ((2 ^ 64 : Nat) : Int) = 18446744073709551616 := by decide +kernel
  rw [this]
  omega
theorem digN_lt (w : Int) (k : Nat) : digN w k ≤ 15 := by unfold digN; omega
theorem rawD_eq (w : Int) (k : Nat) (hk : k ≤ 31) : rawD w k = (digN w k : Int) := by
  unfold rawD
  rw [show min k IntKind.u32.bits = k from by show min k 32 = k; omega, Int.fdiv_eq_ediv_of_nonneg _ (Int.pow_nonneg (by omega))]
  show IntKind.i64.wrap (IntKind.u32.wrap ((BitVec.ofInt 32 (w / 2 ^ k) &&& BitVec.ofInt 32 15).toNat : Int)) = _
  rw [and32]
  unfold digN
  rw [IntKind.wrap_u32, wrap64 (by omega) (by omega)]
  omega
theorem rawDs_eq (m : D4) : rawDs m = (digsP m).map fun n : Nat => (n : Int) := by
  simp [rawDs, digsP, atsP, rawD_eq]
theorem digsP_le (m : D4) : ∀ d ∈ digsP m, d ≤ 15 := by
  intro d hd
  simp only [digsP, List.mem_append, List.mem_map] at hd
  rcases hd with ⟨k, _, rfl⟩ | ⟨k, _, rfl⟩ | ⟨k, _, rfl⟩ | ⟨k, _, rfl⟩ <;> exact digN_lt _ _
theorem sumN_le : ∀ (l : List Nat) (s : Nat), sumN l s ≤ s + 15 * l.length
  | [], s => by simp [sumN]
  | d :: l, s => by
    have := sumN_le l (s + (15 - d))
    unfold sumN at this ⊢
    simp only [List.foldl_cons, List.length_cons]
    omega
theorem rawSum_eq : ∀ (l : List Nat) (s : Nat), (∀ d ∈ l, d ≤ 15) → s + 15 * l.length ≤ 1000000 → (l.map fun n : Nat => (n : Int)).foldl (fun s d => IntKind.i64.wrap (s + IntKind.i64.wrap (15 - d))) (s : Int) = (sumN l s : Int)
  | [], s, _, _ => by simp [sumN]
  | d :: l, s, h, hs => by
    have hd := h d (by simp)
    simp only [List.length_cons] at hs
    have ih := rawSum_eq l (s + (15 - d)) (fun x hx => h x (by simp [hx])) (by omega)
    have e : IntKind.i64.wrap ((s : Int) + IntKind.i64.wrap (15 - (d : Int))) = ((s + (15 - d) : Nat) : Int) := by
      rw [wrap64 (n := 15 - (d : Int)) (by omega) (by omega), wrap64 (by omega) (by omega)]; omega
    simp only [List.map_cons, List.foldl_cons, e, ih]
    rfl
theorem digsP_len (m : D4) : (digsP m).length = 32 := rfl
theorem rawE_eq (s : Nat) (k : Nat) (hk : k ≤ 60) : rawE s k = ((s / 2 ^ k % 16 : Nat) : Int) := by
  unfold rawE
  rw [show min k IntKind.i64.bits = k from by show min k 64 = k; omega, Int.fdiv_eq_ediv_of_nonneg _ (Int.pow_nonneg (by omega))]
  show IntKind.i64.wrap ((BitVec.ofInt 64 ((s : Int) / 2 ^ k) &&& BitVec.ofInt 64 15).toNat : Int) = _
  rw [and64, wrap64 (by omega) (by omega)]
  norm_cast
theorem rawF_eq (s : Nat) : rawF s = ((s % 16 : Nat) : Int) := by
  unfold rawF
  show IntKind.i64.wrap ((BitVec.ofInt 64 (s : Int) &&& BitVec.ofInt 64 15).toNat : Int) = _
  rw [and64, wrap64 (by omega) (by omega)]
  omega
theorem rawSteps_eq (m : D4) : rawSteps m = (stepsP m).map fun n : Nat => (n : Int) := by
  have hs : rawSum (rawDs m) = (sumN (digsP m) 0 : Int) := by
    rw [rawDs_eq]
    exact rawSum_eq _ 0 (digsP_le m) (by rw [digsP_len]; omega)
  unfold rawSteps stepsP
  rw [hs, rawE_eq _ 8 (by omega), rawE_eq _ 4 (by omega), rawF_eq, rawDs_eq]
  simp
abbrev rowN (l : List Nat) : List (List AV) := l.map fun (n : Nat) => [iv (n : Int)]
theorem e63 (m : D4) : (lim Tryz.prog E47 X47).dat 65 [.agg m.row] = some [.vec 1 (rowN (stepsP m))] := by
  rw [e63r, rawSteps_eq, List.map_map]; rfl
theorem stepsP_len (m : D4) : (stepsP m).length = 35 := rfl
theorem stepsP_le (m : D4) : ∀ d ∈ stepsP m, d ≤ 15 := by
  intro d hd
  unfold stepsP at hd
  rcases List.mem_append.1 hd with h | h
  · exact digsP_le m d h
  · simp only [List.mem_cons, List.not_mem_nil, or_false] at h
    omega
def stepAt (m : D4) (i : Nat) : Nat := (stepsP m).getD i 0
theorem stepAt_le (m : D4) (i : Nat) : stepAt m i ≤ 15 := by
  unfold stepAt
  rw [List.getD_eq_getElem?_getD]
  cases h : (stepsP m)[i]? with
  | none => simp
  | some d => exact stepsP_le m d (List.mem_of_getElem? h)
theorem stepAt_row (m : D4) (i : Nat) (hi : i < 35) : (rowN (stepsP m))[i]? = some [iv (stepAt m i)] := by
  unfold stepAt
  rw [List.getD_eq_getElem?_getD, List.getElem?_map]
  have : i < (stepsP m).length := by rw [stepsP_len]; exact hi
  rw [List.getElem?_eq_getElem this]; rfl
/-! ### signatures, plainly -/
def d4z : D4 := ⟨0, 0, 0, 0⟩
def signP (s m : D4) : List D4 := (List.range 35).map fun (i : Nat) => walkP (beginP s i) (stepAt m i)
def reachP (m : D4) (l : List D4) : D4 := togetherP (fun i => walkP (l.getD i d4z) (15 - stepAt m i)) 35
theorem togetherP_congr {f g : Nat → D4} : ∀ n, (∀ i, i < n → f i = g i) → togetherP f n = togetherP g n
  | 0, _ => rfl
  | n + 1, h => by
    show pairP (togetherP f n) (f n) = pairP (togetherP g n) (g n)
    rw [togetherP_congr n (fun i hi => h i (by omega)), h n (by omega)]
theorem signP_len (s m : D4) : (signP s m).length = 35 := by simp [signP]
theorem reach_sign (s m : D4) : reachP m (signP s m) = publicP s := by
  unfold reachP publicP
  refine togetherP_congr 35 fun i hi => ?_
  have e : (signP s m).getD i d4z = walkP (beginP s i) (stepAt m i) := by
    rw [List.getD_eq_getElem?_getD, signP, List.getElem?_map, List.getElem?_range hi]; rfl
  rw [e, walkP_add]
  have := stepAt_le m i
  congr 1; omega
theorem rowG_ap (a b : List D4) : rowG (a ++ b) = rowG a ++ rowG b := List.map_append
theorem signP_take (s m : D4) (k : Nat) (hk : k < 35) : rowG ((signP s m).take k) ++ [(walkP (beginP s k) (stepAt m k)).row] = rowG ((signP s m).take (k + 1)) := by
  have : k < (signP s m).length := by rw [signP_len]; exact hk
  have e : (signP s m)[k] = walkP (beginP s k) (stepAt m k) := by simp [signP]
  rw [List.take_add_one, List.getElem?_eq_getElem this, rowG_ap, e]; rfl
end Go.Proofs.YtdokejnokhicbaaGreatDoor

namespace Go.Proofs.YtdokejnokhicbaaGreatDoor
open Go Go.Ab
set_option linter.unusedSimpArgs false
set_option linter.unusedVariables false
attribute [-simp] Prog.bind getCs putCs
attribute [local simp ↓] run_bind
attribute [local simp ↓] runF_bind
attribute [local simp] run_getCsN runF_getCsN facetsC putCs_one run_putCsN runF_putCsN facetsW facetsH
attribute [local simp ↓] evInt_xor evInt_or evInt_and64
set_option maxHeartbeats 8000000 in
theorem e48 (s m : D4) : (lim Tryz.prog E47 X47).dat 49 [.agg s.row, .agg m.row] = some [.vec 4 (rowG (signP s m))] := by
  refine fnW Tryz.func49 rfl rfl bodyOk_49 rfl rtys_49 rfl ?_
  have h62 := e62
  have h63 := e63 m
  have hNl : (rowN (stepsP m)).length = 35 := rfl
  have hrow := Lib.hid (stepAt_row m)
  have h64a := Lib.hid (e64 s)
  have h77a := Lib.hid e77
  have hsg := Lib.hid (signP_take s m)
  have hle := Lib.hid (stepAt_le m)
  obtain ⟨a0, a1, a2, a3⟩ := s
  obtain ⟨m0, m1, m2, m3⟩ := m
  generalize hS : (⟨a0, a1, a2, a3⟩ : D4) = s at *
  generalize hM : (⟨m0, m1, m2, m3⟩ : D4) = m at *
  have hs0 : s.row = [uv a0, uv a1, uv a2, uv a3] := by rw [← hS]; rfl
  have hm0 : m.row = [uv m0, uv m1, uv m2, uv m3] := by rw [← hM]; rfl
  clear hS hM
  rw [hs0, hm0]
  rw [hm0] at h63
  have h64b : ∀ i : Nat, i < 4294967296 → (lim Tryz.prog E47 X47).dat 75 [.agg [uv a0, uv a1, uv a2, uv a3], iv i] = some [.agg (beginP s i).row] := fun i hi => by rw [← hs0]; exact h64a.out i hi
  replace h64b := Lib.hid h64b
  clear h64a hs0 hm0
  generalize hRN : rowN (stepsP m) = RS at *
  repeat' (first
    | ((with_reducible first | apply Wo_u | apply Wo_n | apply ex2 | apply W_sc | apply W_c | apply Wd_u | apply Wd_n | apply ex4 | apply EndQ_ret | apply EndQ_normal); (conv => lhs; simp -implicitDefEqProofs [*]) <;> exact rfl)
    | (with_reducible first | apply Wo_nil | apply W_ss | apply W_srl | apply W_rl | apply W_sblock | apply W_block | apply W_sskip | apply W_skip | apply W_sret | apply W_ret | apply W_sexit | apply W_exit | apply thenW_n | apply thenW_r | apply thenW_e | apply inB_n | apply inB_r | apply inB_e)
    | ((with_reducible apply Wo_gt); (exact rfl); ((conv => lhs; simp -implicitDefEqProofs [*]) <;> exact rfl); (conv => lhs; simp -implicitDefEqProofs [*]) <;> exact rfl)
    | ((with_reducible apply Wo_gf); (exact rfl); ((conv => lhs; simp -implicitDefEqProofs [*]) <;> exact rfl); (exact rfl))
    | ((with_reducible apply Wo_gx); (exact rfl); ((conv => lhs; simp -implicitDefEqProofs [*]) <;> exact rfl))
    | ((with_reducible apply Wo_gsT); (exact rfl); ((conv => lhs; simp -implicitDefEqProofs [*]) <;> exact rfl))
    | ((with_reducible apply Wo_gsF); (exact rfl); ((conv => lhs; simp -implicitDefEqProofs [*]) <;> exact rfl))
    | ((with_reducible apply Wd_gsT); (exact rfl); ((conv => lhs; simp -implicitDefEqProofs [*]) <;> exact rfl))
    | ((with_reducible apply Wd_gsF); (exact rfl); ((conv => lhs; simp -implicitDefEqProofs [*]) <;> exact rfl))
    | ((with_reducible first | apply W_srdl | apply W_rdl); kernel_rfl)
    | ((with_reducible apply Wd_nil); exact rfl)
    | ((with_reducible apply inB_o); rotate_left; exact rfl)
    | (intro h h'; try simp [*, -h] at h'))
  refine W_loopS (n := 35) (fun s0 mm q => ∃ k g : Nat, mm = 35 - k ∧ k ≤ 35 ∧ q.fr 14 = iv k ∧ q.fr 13 = s0.fr 13 ∧ q.fr 12 = s0.fr 12 ∧ q.hp ⟨0, 12, 0⟩ = s0.hp ⟨0, 12, 0⟩ ∧ q.fr 5 = s0.fr 5 ∧ q.fr 2 = s0.fr 2 ∧ q.hp ⟨0, 2, 0⟩ = s0.hp ⟨0, 2, 0⟩ ∧ q.fr 6 = .own ⟨0, 10, 0⟩ g k ∧ q.hp ⟨0, 10, 0⟩ = .arr g 4 24 (rowG ((signP s m).take k)) false) ⟨0, 1, by simp, by omega, by simp, by simp, by simp, by simp, by simp, by simp, by simp, by simp, by simp⟩ ?_
  rintro mm ⟨fr, hp⟩ ⟨k, g, rfl, hk, hs14, hs13, hs12, hh12, hs5, hs2, hh2, hs6, hh10⟩
  simp [hNl] at hs14 hs13 hs12 hh12 hs5 hs2 hh2 hs6
  simp only at hh10
  by_cases hlt : k < 35
  · have hlI : (k : Int) < 35 := by omega
    have hw := wrapN (k := k) (by omega)
    have hg := hrow.out k hlt
    have hg2 : ∀ h, RS[k]'h = [iv (stepAt m k)] := fun h => by rw [List.getElem?_eq_getElem h] at hg; exact Option.some.inj hg
    have hx64 := h64b.out k (by omega)
    have hx77 : (lim Tryz.prog E47 X47).dat 85 [.agg [uv (beginP s k).d0, uv (beginP s k).d1, uv (beginP s k).d2, uv (beginP s k).d3], iv (stepAt m k), .dp [uv 0, uv 0, uv 0, uv 1] 0] = some [.agg [uv (walkP (beginP s k) (stepAt m k)).d0, uv (walkP (beginP s k) (stepAt m k)).d1, uv (walkP (beginP s k) (stepAt m k)).d2, uv (walkP (beginP s k) (stepAt m k)).d3]] := h77a.out (beginP s k) (stepAt m k) (by have := hle.out k; omega)
    have y1 : (k + 1) * 16 ≤ 140737488355328 := by omega
    have y2 : k ≤ 9223372036854775806 := by omega
    have y4 : (rowG ((signP s m).take k)).length = k := by rw [List.length_map, List.length_take, signP_len]; omega
    have y5 := hsg.out k hlt
    obtain ⟨RZ, hRZ⟩ : ∃ RZ, RZ = rowG ((signP s m).take (k + 1)) := ⟨_, rfl⟩
    rw [← hRZ] at y5
    have hRZK := Lib.hid hRZ
    clear hRZ
    generalize stepAt m k = nk at *
    generalize beginP s k = y at *
    generalize walkP y nk = z at *
    generalize rowG ((signP s m).take k) = RN at *
    obtain ⟨y0, y1', y2', y3⟩ := y
    obtain ⟨z0, z1, z2, z3⟩ := z
    simp only [D4.row] at hx64 hx77 y5
    repeat' (first
      | ((with_reducible first | apply Wo_u | apply Wo_n | apply ex2 | apply W_sc | apply W_c | apply Wd_u | apply Wd_n | apply ex4 | apply EndQ_ret | apply EndQ_normal); (conv => lhs; simp -implicitDefEqProofs [*]) <;> exact rfl)
      | (with_reducible first | apply Wo_nil | apply W_ss | apply W_srl | apply W_rl | apply W_sblock | apply W_block | apply W_sskip | apply W_skip | apply W_sret | apply W_ret | apply W_sexit | apply W_exit | apply thenW_n | apply thenW_r | apply thenW_e | apply inB_n | apply inB_r | apply inB_e)
      | ((with_reducible apply Wo_gt); (exact rfl); ((conv => lhs; simp -implicitDefEqProofs [*]) <;> exact rfl); (conv => lhs; simp -implicitDefEqProofs [*]) <;> exact rfl)
      | ((with_reducible apply Wo_gf); (exact rfl); ((conv => lhs; simp -implicitDefEqProofs [*]) <;> exact rfl); (exact rfl))
      | ((with_reducible apply Wo_gx); (exact rfl); ((conv => lhs; simp -implicitDefEqProofs [*]) <;> exact rfl))
      | ((with_reducible apply Wo_gsT); (exact rfl); ((conv => lhs; simp -implicitDefEqProofs [*]) <;> exact rfl))
      | ((with_reducible apply Wo_gsF); (exact rfl); ((conv => lhs; simp -implicitDefEqProofs [*]) <;> exact rfl))
      | ((with_reducible apply Wd_gsT); (exact rfl); ((conv => lhs; simp -implicitDefEqProofs [*]) <;> exact rfl))
      | ((with_reducible apply Wd_gsF); (exact rfl); ((conv => lhs; simp -implicitDefEqProofs [*]) <;> exact rfl))
      | ((with_reducible first | apply W_srdl | apply W_rdl); kernel_rfl)
      | ((with_reducible apply Wd_nil); exact rfl)
      | ((with_reducible apply inB_o); rotate_left; exact rfl)
      | (intro h h'; try simp [*, -h] at h'))
    all_goals exact ⟨35 - (k + 1), by omega, k + 1, g + 1, rfl, hlt, by simp [*], by simp [*], by simp [*], by simp [*], by simp [*], by simp [*], by simp [*], by simp [*], by rw [← hRZK.out]; simp [*]⟩
  · obtain rfl : k = 35 := by omega
    have hta : (signP s m).take 35 = signP s m := List.take_of_length_le (by rw [signP_len]; omega)
    rw [hta] at hh10
    have y4 : (rowG (signP s m)).length = 35 := by rw [List.length_map, signP_len]
    have y5 : (rowG (signP s m)).take 35 = rowG (signP s m) := List.take_of_length_le (by omega)
    generalize rowG (signP s m) = RN at *
    repeat' (first
      | ((with_reducible first | apply Wo_u | apply Wo_n | apply ex2 | apply W_sc | apply W_c | apply Wd_u | apply Wd_n | apply ex4 | apply EndQ_ret | apply EndQ_normal); (conv => lhs; simp -implicitDefEqProofs [*]) <;> exact rfl)
      | (with_reducible first | apply Wo_nil | apply W_ss | apply W_srl | apply W_rl | apply W_sblock | apply W_block | apply W_sskip | apply W_skip | apply W_sret | apply W_ret | apply W_sexit | apply W_exit | apply thenW_n | apply thenW_r | apply thenW_e | apply inB_n | apply inB_r | apply inB_e)
      | ((with_reducible apply Wo_gt); (exact rfl); ((conv => lhs; simp -implicitDefEqProofs [*]) <;> exact rfl); (conv => lhs; simp -implicitDefEqProofs [*]) <;> exact rfl)
      | ((with_reducible apply Wo_gf); (exact rfl); ((conv => lhs; simp -implicitDefEqProofs [*]) <;> exact rfl); (exact rfl))
      | ((with_reducible apply Wo_gx); (exact rfl); ((conv => lhs; simp -implicitDefEqProofs [*]) <;> exact rfl))
      | ((with_reducible apply Wo_gsT); (exact rfl); ((conv => lhs; simp -implicitDefEqProofs [*]) <;> exact rfl))
      | ((with_reducible apply Wo_gsF); (exact rfl); ((conv => lhs; simp -implicitDefEqProofs [*]) <;> exact rfl))
      | ((with_reducible apply Wd_gsT); (exact rfl); ((conv => lhs; simp -implicitDefEqProofs [*]) <;> exact rfl))
      | ((with_reducible apply Wd_gsF); (exact rfl); ((conv => lhs; simp -implicitDefEqProofs [*]) <;> exact rfl))
      | ((with_reducible first | apply W_srdl | apply W_rdl); kernel_rfl)
      | ((with_reducible apply Wd_nil); exact rfl)
      | ((with_reducible apply inB_o); rotate_left; exact rfl)
      | (intro h h'; try simp [*, -h] at h'))
    all_goals rfl
set_option maxHeartbeats 4000000 in
theorem e69 (m : D4) (l : List D4) (hl : l.length = 35) (i : Nat) (hi : i < 35) : (lim Tryz.prog E47 X47).dat 67 [iv i, .dp [.fn 85 [.dp [uv 0, uv 0, uv 0, uv 1] 0]] 0, .dp [.sl false 4 (rowG l)] 0, .dp [.sl false 1 (rowN (stepsP m))] 0] = some [.agg [uv (walkP (l.getD i d4z) (15 - stepAt m i)).d0, uv (walkP (l.getD i d4z) (15 - stepAt m i)).d1, uv (walkP (l.getD i d4z) (15 - stepAt m i)).d2, uv (walkP (l.getD i d4z) (15 - stepAt m i)).d3]] := by
  refine fnW Tryz.func67 rfl rfl bodyOk_67 rfl rtys_67 rfl ?_
  have hlI : (i : Int) < 35 := by omega
  have hG := stepAt_row m i hi
  have hG2 : ∀ h, (rowN (stepsP m))[i]'h = [iv (stepAt m i)] := fun h => by rw [List.getElem?_eq_getElem h] at hG; exact Option.some.inj hG
  have hNl : (rowN (stepsP m)).length = 35 := rfl
  have hL : (rowG l)[i]? = some (l.getD i d4z).row := by
    have : i < l.length := by omega
    rw [List.getElem?_map, List.getElem?_eq_getElem this, List.getD_eq_getElem?_getD, List.getElem?_eq_getElem this]; rfl
  have hL2 : ∀ h, (rowG l)[i]'h = (l.getD i d4z).row := fun h => by rw [List.getElem?_eq_getElem h] at hL; exact Option.some.inj hL
  have hLl : (rowG l).length = 35 := by rw [List.length_map, hl]
  have h77 : (lim Tryz.prog E47 X47).dat 85 [.agg [uv (l.getD i d4z).d0, uv (l.getD i d4z).d1, uv (l.getD i d4z).d2, uv (l.getD i d4z).d3], iv ((15 - stepAt m i : Nat) : Int), .dp [uv 0, uv 0, uv 0, uv 1] 0] = some [.agg [uv (walkP (l.getD i d4z) (15 - stepAt m i)).d0, uv (walkP (l.getD i d4z) (15 - stepAt m i)).d1, uv (walkP (l.getD i d4z) (15 - stepAt m i)).d2, uv (walkP (l.getD i d4z) (15 - stepAt m i)).d3]] := e77 (l.getD i d4z) (15 - stepAt m i) (by omega)
  have hle := stepAt_le m i
  have hsub : IntKind.i64.wrap (15 - (stepAt m i : Int)) = ((15 - stepAt m i : Nat) : Int) := by rw [wrap64 (by omega) (by omega)]; omega
  simp only [D4.row] at hL hL2
  generalize l.getD i d4z = x at *
  generalize 15 - stepAt m i = nn at *
  generalize stepAt m i = nk at *
  generalize walkP x nn = z at *
  generalize rowG l = RG at *
  generalize rowN (stepsP m) = RS at *
  clear hl
  repeat' (first
    | ((with_reducible first | apply Wo_u | apply Wo_n | apply ex2 | apply W_sc | apply W_c | apply Wd_u | apply Wd_n | apply ex4 | apply EndQ_ret | apply EndQ_normal); (conv => lhs; simp -implicitDefEqProofs [*]) <;> exact rfl)
    | (with_reducible first | apply Wo_nil | apply W_ss | apply W_srl | apply W_rl | apply W_sblock | apply W_block | apply W_sskip | apply W_skip | apply W_sret | apply W_ret | apply W_sexit | apply W_exit | apply thenW_n | apply thenW_r | apply thenW_e | apply inB_n | apply inB_r | apply inB_e)
    | ((with_reducible apply Wo_gt); (exact rfl); ((conv => lhs; simp -implicitDefEqProofs [*]) <;> exact rfl); (conv => lhs; simp -implicitDefEqProofs [*]) <;> exact rfl)
    | ((with_reducible apply Wo_gf); (exact rfl); ((conv => lhs; simp -implicitDefEqProofs [*]) <;> exact rfl); (exact rfl))
    | ((with_reducible apply Wo_gx); (exact rfl); ((conv => lhs; simp -implicitDefEqProofs [*]) <;> exact rfl))
    | ((with_reducible apply Wo_gsT); (exact rfl); ((conv => lhs; simp -implicitDefEqProofs [*]) <;> exact rfl))
    | ((with_reducible apply Wo_gsF); (exact rfl); ((conv => lhs; simp -implicitDefEqProofs [*]) <;> exact rfl))
    | ((with_reducible apply Wd_gsT); (exact rfl); ((conv => lhs; simp -implicitDefEqProofs [*]) <;> exact rfl))
    | ((with_reducible apply Wd_gsF); (exact rfl); ((conv => lhs; simp -implicitDefEqProofs [*]) <;> exact rfl))
    | ((with_reducible first | apply W_srdl | apply W_rdl); kernel_rfl)
    | ((with_reducible apply Wd_nil); exact rfl)
    | ((with_reducible apply inB_o); rotate_left; exact rfl)
    | (intro h h'; try simp [*, -h] at h'))
  all_goals rfl
set_option maxHeartbeats 4000000 in
theorem e67_en (m : D4) (l : List D4) (en : Nat → D4) (h69 : ∀ i : Nat, i < 35 → (lim Tryz.prog E47 X47).dat 67 [iv i, .dp [.fn 85 [.dp [uv 0, uv 0, uv 0, uv 1] 0]] 0, .dp [.sl false 4 (rowG l)] 0, .dp [.sl false 1 (rowN (stepsP m))] 0] = some [.agg [uv (en i).d0, uv (en i).d1, uv (en i).d2, uv (en i).d3]]) : (lim Tryz.prog E47 X47).dat 66 [.fn 67 [.dp [.fn 85 [.dp [uv 0, uv 0, uv 0, uv 1] 0]] 0, .dp [.sl false 4 (rowG l)] 0, .dp [.sl false 1 (rowN (stepsP m))] 0]] = some [.agg [uv (togetherP en 35).d0, uv (togetherP en 35).d1, uv (togetherP en 35).d2, uv (togetherP en 35).d3]] := by
  refine fnW Tryz.func66 rfl rfl bodyOk_66 rfl rtys_66 rfl ?_
  have h33 : ∀ k, (lim Tryz.prog E47 X47).dat 29 [.agg [uv (togetherP en k).d0, uv (togetherP en k).d1, uv (togetherP en k).d2, uv (togetherP en k).d3], .agg [uv (en k).d0, uv (en k).d1, uv (en k).d2, uv (en k).d3]] = some [.agg [uv (togetherP en (k + 1)).d0, uv (togetherP en (k + 1)).d1, uv (togetherP en (k + 1)).d2, uv (togetherP en (k + 1)).d3]] := fun k => e33 _ _
  replace h33 := Lib.hid h33
  replace h69 := Lib.hid h69
  repeat' (first
    | ((with_reducible first | apply Wo_u | apply Wo_n | apply ex2 | apply W_sc | apply W_c | apply Wd_u | apply Wd_n | apply ex4 | apply EndQ_ret | apply EndQ_normal); (conv => lhs; simp -implicitDefEqProofs [*]) <;> exact rfl)
    | (with_reducible first | apply Wo_nil | apply W_ss | apply W_srl | apply W_rl | apply W_sblock | apply W_block | apply W_sskip | apply W_skip | apply W_sret | apply W_ret | apply W_sexit | apply W_exit | apply thenW_n | apply thenW_r | apply thenW_e | apply inB_n | apply inB_r | apply inB_e)
    | ((with_reducible apply Wo_gt); (exact rfl); ((conv => lhs; simp -implicitDefEqProofs [*]) <;> exact rfl); (conv => lhs; simp -implicitDefEqProofs [*]) <;> exact rfl)
    | ((with_reducible apply Wo_gf); (exact rfl); ((conv => lhs; simp -implicitDefEqProofs [*]) <;> exact rfl); (exact rfl))
    | ((with_reducible apply Wo_gx); (exact rfl); ((conv => lhs; simp -implicitDefEqProofs [*]) <;> exact rfl))
    | ((with_reducible apply Wo_gsT); (exact rfl); ((conv => lhs; simp -implicitDefEqProofs [*]) <;> exact rfl))
    | ((with_reducible apply Wo_gsF); (exact rfl); ((conv => lhs; simp -implicitDefEqProofs [*]) <;> exact rfl))
    | ((with_reducible apply Wd_gsT); (exact rfl); ((conv => lhs; simp -implicitDefEqProofs [*]) <;> exact rfl))
    | ((with_reducible apply Wd_gsF); (exact rfl); ((conv => lhs; simp -implicitDefEqProofs [*]) <;> exact rfl))
    | ((with_reducible first | apply W_srdl | apply W_rdl); kernel_rfl)
    | ((with_reducible apply Wd_nil); exact rfl)
    | ((with_reducible apply inB_o); rotate_left; exact rfl)
    | (intro h h'; try simp [*, -h] at h'))
  refine W_loopS (n := 35) (fun s0 mm q => ∃ k : Nat, mm = 35 - k ∧ k ≤ 35 ∧ q.fr 6 = iv k ∧ q.hp ⟨0, 3, 0⟩ = .box 1 [uv (togetherP en k).d0, uv (togetherP en k).d1, uv (togetherP en k).d2, uv (togetherP en k).d3] false ∧ q.fr 0 = s0.fr 0 ∧ q.fr 3 = s0.fr 3 ∧ q.fr 2 = s0.fr 2 ∧ q.hp ⟨0, 2, 0⟩ = s0.hp ⟨0, 2, 0⟩) ⟨0, by omega, by omega, by simp, by simp [togetherP], by simp, by simp, by simp, by simp⟩ ?_
  rintro mm ⟨fr, hp⟩ ⟨k, rfl, hk, hs6, hb3, hs0, hs3, hs2, hb2⟩
  simp at hs6 hb3 hs0 hs3 hs2 hb2
  by_cases hlt : k < 35
  · have hlI : (k : Int) < 35 := by omega
    have hw := wrapN (k := k) (by omega)
    have h := h33.out k
    have h' := h69.out k hlt
    repeat' (first
      | ((with_reducible first | apply Wo_u | apply Wo_n | apply ex2 | apply W_sc | apply W_c | apply Wd_u | apply Wd_n | apply ex4 | apply EndQ_ret | apply EndQ_normal); (conv => lhs; simp -implicitDefEqProofs [*]) <;> exact rfl)
      | (with_reducible first | apply Wo_nil | apply W_ss | apply W_srl | apply W_rl | apply W_sblock | apply W_block | apply W_sskip | apply W_skip | apply W_sret | apply W_ret | apply W_sexit | apply W_exit | apply thenW_n | apply thenW_r | apply thenW_e | apply inB_n | apply inB_r | apply inB_e)
      | ((with_reducible apply Wo_gt); (exact rfl); ((conv => lhs; simp -implicitDefEqProofs [*]) <;> exact rfl); (conv => lhs; simp -implicitDefEqProofs [*]) <;> exact rfl)
      | ((with_reducible apply Wo_gf); (exact rfl); ((conv => lhs; simp -implicitDefEqProofs [*]) <;> exact rfl); (exact rfl))
      | ((with_reducible apply Wo_gx); (exact rfl); ((conv => lhs; simp -implicitDefEqProofs [*]) <;> exact rfl))
      | ((with_reducible apply Wo_gsT); (exact rfl); ((conv => lhs; simp -implicitDefEqProofs [*]) <;> exact rfl))
      | ((with_reducible apply Wo_gsF); (exact rfl); ((conv => lhs; simp -implicitDefEqProofs [*]) <;> exact rfl))
      | ((with_reducible apply Wd_gsT); (exact rfl); ((conv => lhs; simp -implicitDefEqProofs [*]) <;> exact rfl))
      | ((with_reducible apply Wd_gsF); (exact rfl); ((conv => lhs; simp -implicitDefEqProofs [*]) <;> exact rfl))
      | ((with_reducible first | apply W_srdl | apply W_rdl); kernel_rfl)
      | ((with_reducible apply Wd_nil); exact rfl)
      | ((with_reducible apply inB_o); rotate_left; exact rfl)
      | (intro h h'; try simp [*, -h] at h'))
    all_goals exact ⟨35 - (k + 1), by omega, k + 1, rfl, by omega, by simp [*], by simp [*], by simp [*], by simp [*], by simp [*], by simp [*]⟩
  · obtain rfl : k = 35 := by omega
    repeat' (first
      | ((with_reducible first | apply Wo_u | apply Wo_n | apply ex2 | apply W_sc | apply W_c | apply Wd_u | apply Wd_n | apply ex4 | apply EndQ_ret | apply EndQ_normal); (conv => lhs; simp -implicitDefEqProofs [*]) <;> exact rfl)
      | (with_reducible first | apply Wo_nil | apply W_ss | apply W_srl | apply W_rl | apply W_sblock | apply W_block | apply W_sskip | apply W_skip | apply W_sret | apply W_ret | apply W_sexit | apply W_exit | apply thenW_n | apply thenW_r | apply thenW_e | apply inB_n | apply inB_r | apply inB_e)
      | ((with_reducible apply Wo_gt); (exact rfl); ((conv => lhs; simp -implicitDefEqProofs [*]) <;> exact rfl); (conv => lhs; simp -implicitDefEqProofs [*]) <;> exact rfl)
      | ((with_reducible apply Wo_gf); (exact rfl); ((conv => lhs; simp -implicitDefEqProofs [*]) <;> exact rfl); (exact rfl))
      | ((with_reducible apply Wo_gx); (exact rfl); ((conv => lhs; simp -implicitDefEqProofs [*]) <;> exact rfl))
      | ((with_reducible apply Wo_gsT); (exact rfl); ((conv => lhs; simp -implicitDefEqProofs [*]) <;> exact rfl))
      | ((with_reducible apply Wo_gsF); (exact rfl); ((conv => lhs; simp -implicitDefEqProofs [*]) <;> exact rfl))
      | ((with_reducible apply Wd_gsT); (exact rfl); ((conv => lhs; simp -implicitDefEqProofs [*]) <;> exact rfl))
      | ((with_reducible apply Wd_gsF); (exact rfl); ((conv => lhs; simp -implicitDefEqProofs [*]) <;> exact rfl))
      | ((with_reducible first | apply W_srdl | apply W_rdl); kernel_rfl)
      | ((with_reducible apply Wd_nil); exact rfl)
      | ((with_reducible apply inB_o); rotate_left; exact rfl)
      | (intro h h'; try simp [*, -h] at h'))
    all_goals rfl
theorem e67_69 (m : D4) (l : List D4) (hl : l.length = 35) : (lim Tryz.prog E47 X47).dat 66 [.fn 67 [.dp [.fn 85 [.dp [uv 0, uv 0, uv 0, uv 1] 0]] 0, .dp [.sl false 4 (rowG l)] 0, .dp [.sl false 1 (rowN (stepsP m))] 0]] = some [.agg [uv (reachP m l).d0, uv (reachP m l).d1, uv (reachP m l).d2, uv (reachP m l).d3]] := e67_en m l _ (e69 m l hl)
set_option maxHeartbeats 4000000 in
theorem e54 (m : D4) (l : List D4) (hl : l.length = 35) : (lim Tryz.prog E47 X47).dat 39 [.agg m.row, .sl false 4 (rowG l)] = some [.agg (reachP m l).row, bv true] := by
  refine fnW Tryz.func39 rfl rfl bodyOk_39 rfl rtys_39 rfl ?_
  have h62 := e62
  have h63 := e63 m
  have h67 := e67_69 m l hl
  have hLl : (rowG l).length = 35 := by rw [List.length_map, hl]
  have hNl : (rowN (stepsP m)).length = 35 := rfl
  have hNt : (rowN (stepsP m)).take 35 = rowN (stepsP m) := rfl
  generalize reachP m l = y at *
  generalize rowG l = RG at *
  generalize rowN (stepsP m) = RS at *
  obtain ⟨m0, m1, m2, m3⟩ := m
  simp only [D4.row] at *
  clear hl
  repeat' (first
    | ((with_reducible first | apply Wo_u | apply Wo_n | apply ex2 | apply W_sc | apply W_c | apply Wd_u | apply Wd_n | apply ex4 | apply EndQ_ret | apply EndQ_normal); (conv => lhs; simp -implicitDefEqProofs [*]) <;> exact rfl)
    | (with_reducible first | apply Wo_nil | apply W_ss | apply W_srl | apply W_rl | apply W_sblock | apply W_block | apply W_sskip | apply W_skip | apply W_sret | apply W_ret | apply W_sexit | apply W_exit | apply thenW_n | apply thenW_r | apply thenW_e | apply inB_n | apply inB_r | apply inB_e)
    | ((with_reducible apply Wo_gt); (exact rfl); ((conv => lhs; simp -implicitDefEqProofs [*]) <;> exact rfl); (conv => lhs; simp -implicitDefEqProofs [*]) <;> exact rfl)
    | ((with_reducible apply Wo_gf); (exact rfl); ((conv => lhs; simp -implicitDefEqProofs [*]) <;> exact rfl); (exact rfl))
    | ((with_reducible apply Wo_gx); (exact rfl); ((conv => lhs; simp -implicitDefEqProofs [*]) <;> exact rfl))
    | ((with_reducible apply Wo_gsT); (exact rfl); ((conv => lhs; simp -implicitDefEqProofs [*]) <;> exact rfl))
    | ((with_reducible apply Wo_gsF); (exact rfl); ((conv => lhs; simp -implicitDefEqProofs [*]) <;> exact rfl))
    | ((with_reducible apply Wd_gsT); (exact rfl); ((conv => lhs; simp -implicitDefEqProofs [*]) <;> exact rfl))
    | ((with_reducible apply Wd_gsF); (exact rfl); ((conv => lhs; simp -implicitDefEqProofs [*]) <;> exact rfl))
    | ((with_reducible first | apply W_srdl | apply W_rdl); kernel_rfl)
    | ((with_reducible apply Wd_nil); exact rfl)
    | ((with_reducible apply inB_o); rotate_left; exact rfl)
    | (intro h h'; try simp [*, -h] at h'))
  all_goals rfl
end Go.Proofs.YtdokejnokhicbaaGreatDoor

namespace Go.Proofs.YtdokejnokhicbaaGreatDoor
open Go Go.Ab
set_option linter.unusedSimpArgs false
set_option linter.unusedVariables false
def d4O : List AV → Option D4
  | [.sc (.int .u32 a), .sc (.int .u32 b), .sc (.int .u32 c), .sc (.int .u32 d)] => some ⟨a, b, c, d⟩
  | _ => none
theorem d4O_row {r : List AV} {d : D4} (h : d4O r = some d) : r = d.row := by
  unfold d4O at h
  split at h
  · cases h; rfl
  · cases h
def d4sO : List (List AV) → Option (List D4)
  | [] => some []
  | r :: rs => match d4O r, d4sO rs with
    | some d, some l => some (d :: l)
    | _, _ => none
theorem d4sO_rows : ∀ {rs : List (List AV)} {l : List D4}, d4sO rs = some l → rs = rowG l
  | [], l, h => by simp only [d4sO, Option.some.injEq] at h; subst h; rfl
  | r :: rs, l, h => by
    simp only [d4sO] at h
    split at h
    · rename_i d l' h1 h2
      cases h
      rw [d4O_row h1, d4sO_rows h2]; rfl
    · cases h
def wsO : List (List AV) → Option (List Int)
  | [] => some []
  | [.sc (.int .u32 a)] :: rs => match wsO rs with
    | some l => some (a :: l)
    | none => none
  | _ => none
theorem wsO_rows : ∀ {rs : List (List AV)} {l : List Int}, wsO rs = some l → rs = rowW l
  | [], l, h => by simp only [wsO, Option.some.injEq] at h; subst h; rfl
  | r :: rs, l, h => by
    unfold wsO at h
    split at h
    · rename_i heq; cases heq
    · rename_i a rs' heq
      cases heq
      split at h
      · rename_i l' h2
        cases h
        rw [wsO_rows h2]; rfl
      · cases h
    · cases h
def o32 : List AV → Option (List AV)
  | [.sl false 1 rows] => match wsO rows with
    | some l => if l.length ≤ 1048576 then some [.sc (.string (txtW l))] else none
    | none => none
  | _ => none
def o33 : List AV → Option (List AV)
  | [.agg a, .agg b] => match d4O a, d4O b with
    | some x, some y => some [.agg (pairP x y).row]
    | _, _ => none
  | _ => none
def o34 : List AV → Option (List AV)
  | [.sc (.string s)] => if s.size ≤ 1000000 then some [.agg (ofP s).row] else none
  | _ => none
def o48 : List AV → Option (List AV)
  | [.agg a, .agg b] => match d4O a, d4O b with
    | some x, some y => some [.vec 4 (rowG (signP x y))]
    | _, _ => none
  | _ => none
def o53 : List AV → Option (List AV)
  | [.agg a] => match d4O a with
    | some x => some [.agg (publicP x).row]
    | none => none
  | _ => none
def o54 : List AV → Option (List AV)
  | [.agg a, .sl false 4 rows] => match d4O a, d4sO rows with
    | some x, some l => if l.length = 35 then some [.agg (reachP x l).row, bv true] else none
    | _, _ => none
  | _ => none
def o19 : List AV → Option (List AV)
  | [.agg [.sc (.int .u32 a0), .sc (.int .u32 a1), .sc (.int .u32 a2), .sc (.int .u32 a3), .sc (.int .u32 b0), .sc (.int .u32 b1), .sc (.int .u32 b2), .sc (.int .u32 b3)]] => some [.agg (linkP ⟨a0, a1, a2, a3⟩ ⟨b0, b1, b2, b3⟩).row]
  | _ => none
theorem o32_ok {a r : List AV} (h : o32 a = some r) : (lim Tryz.prog E47 X47).dat 28 a = some r := by
  unfold o32 at h
  split at h
  · split at h
    · rename_i l hl
      split at h
      · rename_i hn
        cases h
        rw [wsO_rows hl]
        exact d26u l hn
      · cases h
    · cases h
  · cases h
theorem o33_ok {a r : List AV} (h : o33 a = some r) : (lim Tryz.prog E47 X47).dat 29 a = some r := by
  unfold o33 at h
  split at h
  · split at h
    · rename_i x y hx hy
      cases h
      rw [d4O_row hx, d4O_row hy]
      exact e33 x y
    · cases h
  · cases h
theorem o34_ok {a r : List AV} (h : o34 a = some r) : (lim Tryz.prog E47 X47).dat 30 a = some r := by
  unfold o34 at h
  split at h
  · split at h
    · rename_i hn
      cases h
      exact e34 _ hn
    · cases h
  · cases h
theorem o48_ok {a r : List AV} (h : o48 a = some r) : (lim Tryz.prog E47 X47).dat 49 a = some r := by
  unfold o48 at h
  split at h
  · split at h
    · rename_i x y hx hy
      cases h
      rw [d4O_row hx, d4O_row hy]
      exact e48 x y
    · cases h
  · cases h
theorem o53_ok {a r : List AV} (h : o53 a = some r) : (lim Tryz.prog E47 X47).dat 55 a = some r := by
  unfold o53 at h
  split at h
  · split at h
    · rename_i x hx
      cases h
      rw [d4O_row hx]
      exact e53 x
    · cases h
  · cases h
theorem o54_ok {a r : List AV} (h : o54 a = some r) : (lim Tryz.prog E47 X47).dat 39 a = some r := by
  unfold o54 at h
  split at h
  · split at h
    · rename_i x l hx hl
      split at h
      · rename_i hn
        cases h
        rw [d4O_row hx, d4sO_rows hl]
        exact e54 x l hn
      · cases h
    · cases h
  · cases h
theorem o19_ok {a r : List AV} (h : o19 a = some r) : (lim Tryz.prog E47 X47).dat 14 a = some r := by
  unfold o19 at h
  split at h
  · rename_i a0 a1 a2 a3 b0 b1 b2 b3
    cases h
    exact e19 ⟨a0, a1, a2, a3⟩ ⟨b0, b1, b2, b3⟩
  · cases h
def Xj : Orc := ⟨fun f args => if f = 28 then o32 args else if f = 29 then o33 args else if f = 30 then o34 args else if f = 14 then o19 args else X47.dat f args, X47.hpc⟩
theorem Xj_le : Xj.le (lim Tryz.prog E47 X47) := by
  refine ⟨fun f a r h => ?_, fun k d f a hp r h => X47_le.hpc _ _ _ _ _ _ h⟩
  simp only [Xj] at h
  by_cases h32 : f = 28
  · subst h32; simp only [if_true] at h; exact o32_ok h
  simp only [h32, if_false] at h
  by_cases h33 : f = 29
  · subst h33; simp only [if_true] at h; exact o33_ok h
  simp only [h33, if_false] at h
  by_cases h34 : f = 30
  · subst h34; simp only [if_true] at h; exact o34_ok h
  simp only [h34, if_false] at h
  by_cases h19 : f = 14
  · subst h19; simp only [if_true] at h; exact o19_ok h
  simp only [h19, if_false] at h
  exact X47_le.dat _ _ _ h
theorem le_Xj : X47.le Xj := by
  refine ⟨fun f a r h => ?_, fun k d f a hp r h => h⟩
  have hf : f = 23 := by
    simp only [X47] at h
    split at h
    · assumption
    · cases h
  subst hf
  exact h
theorem runXj {n f : Nat} {a r : List AV} (h : (evCall Tryz.prog E47 Xj n).dat f a = some r) : (lim Tryz.prog E47 X47).dat f a = some r := run_of le_Xj Xj_le h
/-! ### the seed of a key -/
def rawB (b : UInt8) : UInt8 := UInt8.ofNat b.toNat
def seedRaw (s : D4) (i : Int) : ByteArray := ⟨⟨(107 :: (toBytes (bys [s.d0, s.d1, s.d2, s.d3]) ++ toBytes (bys [IntKind.u32.wrap i]))).map rawB⟩⟩
def seedT (s : D4) (i : Int) : ByteArray := ⟨⟨107 :: toBytes (bys [s.d0, s.d1, s.d2, s.d3, IntKind.u32.wrap i])⟩⟩
theorem seedRaw_eq (s : D4) (i : Int) : seedRaw s i = seedT s i := by
  unfold seedRaw seedT
  have e : ∀ l : List UInt8, l.map rawB = l := fun l => by
    induction l with
    | nil => rfl
    | cons b l ih => simp [ih, rawB]
  rw [e]
  rfl
def seedP (s : D4) (i : Int) : D4 := ofP (seedT s i)
set_option maxRecDepth 100000 in
set_option maxHeartbeats 4000000 in
theorem e49r (s : D4) (i : Int) : (lim Tryz.prog E47 X47).dat 50 [.agg s.row, iv i] = some [.agg (ofP (seedRaw s i)).row] := runXj (n := 100) (by kernel_rfl)
theorem e49 (s : D4) (i : Int) : (lim Tryz.prog E47 X47).dat 50 [.agg s.row, iv i] = some [.agg (seedP s i).row] := by
  rw [e49r, seedRaw_eq]; rfl
def o49 : List AV → Option (List AV)
  | [.agg a, .sc (.int .i64 i)] => match d4O a with
    | some x => some [.agg (seedP x i).row]
    | none => none
  | _ => none
theorem o49_ok {a r : List AV} (h : o49 a = some r) : (lim Tryz.prog E47 X47).dat 50 a = some r := by
  unfold o49 at h
  split at h
  · split at h
    · rename_i x hx
      cases h
      rw [d4O_row hx]
      exact e49 x _
    · cases h
  · cases h
def Xk : Orc := ⟨fun f args => if f = 29 then o33 args else if f = 30 then o34 args else if f = 14 then o19 args else if f = 49 then o48 args else if f = 50 then o49 args else if f = 55 then o53 args else if f = 39 then o54 args else X47.dat f args, X47.hpc⟩
theorem Xk_le : Xk.le (lim Tryz.prog E47 X47) := by
  refine ⟨fun f a r h => ?_, fun k d f a hp r h => X47_le.hpc _ _ _ _ _ _ h⟩
  simp only [Xk] at h
  by_cases h33 : f = 29
  · subst h33; simp only [if_true] at h; exact o33_ok h
  simp only [h33, if_false] at h
  by_cases h34 : f = 30
  · subst h34; simp only [if_true] at h; exact o34_ok h
  simp only [h34, if_false] at h
  by_cases h19 : f = 14
  · subst h19; simp only [if_true] at h; exact o19_ok h
  simp only [h19, if_false] at h
  by_cases h48 : f = 49
  · subst h48; simp only [if_true] at h; exact o48_ok h
  simp only [h48, if_false] at h
  by_cases h49 : f = 50
  · subst h49; simp only [if_true] at h; exact o49_ok h
  simp only [h49, if_false] at h
  by_cases h53 : f = 55
  · subst h53; simp only [if_true] at h; exact o53_ok h
  simp only [h53, if_false] at h
  by_cases h54 : f = 39
  · subst h54; simp only [if_true] at h; exact o54_ok h
  simp only [h54, if_false] at h
  exact X47_le.dat _ _ _ h
theorem le_Xk : X47.le Xk := by
  refine ⟨fun f a r h => ?_, fun k d f a hp r h => h⟩
  have hf : f = 23 := by
    simp only [X47] at h
    split at h
    · assumption
    · cases h
  subst hf
  exact h
theorem runXk {n f : Nat} {a r : List AV} (h : (evCall Tryz.prog E47 Xk n).dat f a = some r) : (lim Tryz.prog E47 X47).dat f a = some r := run_of le_Xk Xk_le h
end Go.Proofs.YtdokejnokhicbaaGreatDoor
