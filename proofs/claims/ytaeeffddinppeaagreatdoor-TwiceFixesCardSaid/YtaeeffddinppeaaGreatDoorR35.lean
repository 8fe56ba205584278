/- A part of the proof: Vc, Vi. -/
import Derived.Test.YtaeeffddinppeaaGreatDoorR33
set_option linter.unusedSimpArgs false
set_option linter.unusedVariables false
namespace Go.Proofs.YtaeeffddinppeaaGreatDoor
open Go Go.Ab
def dvs : Nat → Int → List Int
  | 0, _ => []
  | k + 1, a => IntKind.i64.wrap (a.tmod 2) :: dvs k (IntKind.u32.wrap (a.tdiv 2))
theorem s364 (a : Int) : (lim Tryz.prog E47 X47).dat 364 [uv a] = some [.vec 1 ((dvs 32 a).map fun x => [iv x])] := lim_dat.2 ⟨200, by kernel_rfl⟩
theorem dvs_eq : ∀ (k : Nat) (a : Int), Ma.U a → dvs k a = (List.range k).map fun i => a / 2 ^ i % 2
  | 0, _, _ => rfl
  | k + 1, a, h => by
    have h0 := h.1
    have e1 : IntKind.i64.wrap (a.tmod 2) = a % 2 := by rw [Int.tmod_eq_emod_of_nonneg h0]; exact wrap64 (by omega) (by omega)
    have e2 : IntKind.u32.wrap (a.tdiv 2) = a / 2 := by rw [Int.tdiv_eq_ediv_of_nonneg h0, IntKind.wrap_u32]; unfold Ma.U at h; omega
    rw [dvs, e1, e2, dvs_eq k (a / 2) (by unfold Ma.U at *; omega), List.range_succ_eq_map, List.map_cons, List.map_map]
    congr 1
    · simp
    · refine List.map_congr_left fun i _ => ?_
      simp only [Function.comp, Nat.succ_eq_add_one, Int.pow_succ]
      rw [Int.mul_comm, Int.ediv_ediv_of_nonneg (by decide)]
theorem bits_of {a : Int} (h : Ma.U a) : (lim Tryz.prog E47 X47).dat 364 [uv a] = some [.vec 1 ((Ma.bitsP a).map fun x => [iv x])] := by rw [s364, dvs_eq 32 a h]; rfl
def ofR : List Int → Int
  | [] => 0
  | b :: l => IntKind.u64.wrap (IntKind.u64.wrap (2 * ofR l) + IntKind.u64.wrap b)
theorem s365v (b0 b1 b2 b3 b4 b5 b6 b7 b8 b9 b10 b11 b12 b13 b14 b15 b16 b17 b18 b19 b20 b21 b22 b23 b24 b25 b26 b27 b28 b29 b30 b31 : Int) : (lim Tryz.prog E47 X47).dat 365 [.sl false 1 [[iv b0], [iv b1], [iv b2], [iv b3], [iv b4], [iv b5], [iv b6], [iv b7], [iv b8], [iv b9], [iv b10], [iv b11], [iv b12], [iv b13], [iv b14], [iv b15], [iv b16], [iv b17], [iv b18], [iv b19], [iv b20], [iv b21], [iv b22], [iv b23], [iv b24], [iv b25], [iv b26], [iv b27], [iv b28], [iv b29], [iv b30], [iv b31]]] = some [uv (IntKind.u32.wrap ((ofR [b0, b1, b2, b3, b4, b5, b6, b7, b8, b9, b10, b11, b12, b13, b14, b15, b16, b17, b18, b19, b20, b21, b22, b23, b24, b25, b26, b27, b28, b29, b30, b31]).tmod 4294967296))] := lim_dat.2 ⟨200, by kernel_rfl⟩
theorem s365 (l : List Int) (h : l.length = 32) : (lim Tryz.prog E47 X47).dat 365 [.sl false 1 (l.map fun x => [iv x])] = some [uv (IntKind.u32.wrap ((ofR l).tmod 4294967296))] := by
  match l, h with
  | [b0, b1, b2, b3, b4, b5, b6, b7, b8, b9, b10, b11, b12, b13, b14, b15, b16, b17, b18, b19, b20, b21, b22, b23, b24, b25, b26, b27, b28, b29, b30, b31], _ => exact s365v b0 b1 b2 b3 b4 b5 b6 b7 b8 b9 b10 b11 b12 b13 b14 b15 b16 b17 b18 b19 b20 b21 b22 b23 b24 b25 b26 b27 b28 b29 b30 b31
theorem ofR_val : ∀ (l : List Int), (∀ x ∈ l, x = 0 ∨ x = 1) → l.length ≤ 32 → ofR l = Ma.valP l ∧ 0 ≤ Ma.valP l ∧ Ma.valP l < 2 ^ l.length
  | [], _, _ => ⟨rfl, by decide, by decide⟩
  | b :: l, h, hl => by
    obtain ⟨h1, h2, h3⟩ := ofR_val l (fun x hx => h x (List.mem_cons_of_mem _ hx)) (by simp at hl; omega)
    have hb := h b List.mem_cons_self
    have hp : (2 : Int) ^ l.length ≤ 2 ^ 31 := by exact_mod_cast Nat.pow_le_pow_right (by decide) (by simp at hl; omega)
    have e1 : IntKind.u64.wrap (2 * Ma.valP l) = 2 * Ma.valP l := by rw [IntKind.wrap_u64]; omega
    have e2 : IntKind.u64.wrap b = b := by rw [IntKind.wrap_u64]; omega
    have e3 : IntKind.u64.wrap (2 * Ma.valP l + b) = 2 * Ma.valP l + b := by rw [IntKind.wrap_u64]; omega
    rw [ofR, h1, e1, e2, e3, Ma.valP, List.length_cons, Int.pow_succ]
    omega
theorem bit01 {a : Int} (h : Ma.U a) : (Ma.bitsP a).length = 32 ∧ ∀ i (hi : i < 32), ∃ x, (Ma.bitsP a)[i]? = some x ∧ (x = 0 ∨ x = 1) := by
  refine ⟨by simp [Ma.bitsP], fun i hi => ⟨a / 2 ^ i % 2, by simp [Ma.bitsP, hi], by omega⟩⟩
def mixB (op : Int) (X Y : List Int) (k : Nat) : List Int := (List.zipWith (Ma.bitF op) X Y).take k ++ X.drop k
theorem mixB_len {op : Int} {X Y : List Int} {k : Nat} (hx : X.length = 32) (hy : Y.length = 32) (hk : k ≤ 32) : (mixB op X Y k).length = 32 := by simp [mixB, hx, hy]; omega
theorem mixB_get {op : Int} {X Y : List Int} {k : Nat} (hx : X.length = 32) (hy : Y.length = 32) (hk : k < 32) : (mixB op X Y k)[k]? = X[k]? := by
  unfold mixB
  rw [List.getElem?_append_right (by simp [hx, hy]; omega)]
  simp [hx, hy, Nat.min_eq_left (Nat.le_of_lt hk)]
theorem mixB_set {op : Int} {X Y : List Int} {k : Nat} (hx : X.length = 32) (hy : Y.length = 32) (hk : k < 32) {x y : Int} (h1 : X[k]? = some x) (h2 : Y[k]? = some y) : (mixB op X Y k).set k (Ma.bitF op x y) = mixB op X Y (k + 1) := by
  have hz : (List.zipWith (Ma.bitF op) X Y)[k]? = some (Ma.bitF op x y) := by rw [List.getElem?_zipWith, h1, h2]
  have hd : X.drop k = x :: X.drop (k + 1) := by
    rw [List.drop_eq_getElem_cons (by omega)]
    rw [List.getElem?_eq_getElem (by omega)] at h1
    rw [Option.some.inj h1]
  unfold mixB
  rw [List.set_append_right _ _ (by simp [hx, hy]; omega), hd, List.take_add_one, hz]
  simp [hx, hy, Nat.min_eq_left (Nat.le_of_lt hk)]
theorem mixB_all {op : Int} {X Y : List Int} (hx : X.length = 32) (hy : Y.length = 32) : mixB op X Y 32 = List.zipWith (Ma.bitF op) X Y := by
  unfold mixB
  rw [List.take_of_length_le (by simp [hx, hy]), List.drop_of_length_le (by omega), List.append_nil]
theorem bitF01 (op x y : Int) : Ma.bitF op x y = 0 ∨ Ma.bitF op x y = 1 := by unfold Ma.bitF; split <;> simp
theorem zip01 {op : Int} {X Y : List Int} : ∀ x ∈ List.zipWith (Ma.bitF op) X Y, x = 0 ∨ x = 1 := by
  intro x hx
  rw [List.mem_iff_getElem?] at hx
  obtain ⟨i, hi⟩ := hx
  rw [List.getElem?_zipWith] at hi
  split at hi
  · cases hi; exact bitF01 _ _ _
  · cases hi
theorem of_zip {op a b : Int} (ha : Ma.U a) (hb : Ma.U b) (h : op = 9 ∨ op = 10 ∨ op = 11) : IntKind.u32.wrap ((ofR (List.zipWith (Ma.bitF op) (Ma.bitsP a) (Ma.bitsP b))).tmod 4294967296) = if op = 9 then Ma.andW a b else if op = 10 then Ma.orW a b else Ma.xorW a b := by
  have hl : (List.zipWith (Ma.bitF op) (Ma.bitsP a) (Ma.bitsP b)).length = 32 := by simp [(bit01 ha).1, (bit01 hb).1]
  obtain ⟨h1, h2, h3⟩ := ofR_val _ zip01 (Nat.le_of_eq hl)
  rw [hl] at h3
  rw [h1, Int.tmod_eq_emod_of_nonneg h2, ← Ma.both_val ha hb h, IntKind.wrap_u32]
  omega
set_option maxHeartbeats 8000000 in
theorem s288_9 (a b : Int) (ha : Ma.U a) (hb : Ma.U b)  : (lim Tryz.prog E47 X47).dat 288 [iv 9, uv a, uv b] = some [uv (Ma.andW a b)] := by
  refine fnW Tryz.func288 rfl rfl bodyOk_288 rfl rtys_288 rfl ?_
  have h1 := bits_of ha
  have h2 := bits_of hb
  obtain ⟨x1, x2⟩ := bit01 ha
  obtain ⟨y1, y2⟩ := bit01 hb
  have hres := of_zip ha hb (op := 9) (by simp)
  simp only [show ((9 : Int) = 9) = True from by simp, show ((10 : Int) = 9) = False from by decide, show ((10 : Int) = 10) = True from by simp, show ((11 : Int) = 9) = False from by decide, show ((11 : Int) = 10) = False from by decide, if_true, if_false] at hres
  rw [← hres]
  have h365 := s365 (List.zipWith (Ma.bitF 9) (Ma.bitsP a) (Ma.bitsP b)) (by simp [x1, y1])
  have hall := mixB_all (op := 9) x1 y1
  have h00 : mixB 9 (Ma.bitsP a) (Ma.bitsP b) 0 = Ma.bitsP a := by simp [mixB]
  clear hres
  generalize Ma.bitsP a = X at *
  generalize Ma.bitsP b = Y at *
  have xl : (X.map fun x => ([iv x] : List AV)).length = 32 := by simp [x1]
  have yl : (Y.map fun x => ([iv x] : List AV)).length = 32 := by simp [y1]
  refine sgo0 ?_
  refine W_loopS (n := 33) (fun s0 m q => ∃ k : Nat, m = 33 - k ∧ k ≤ 32 ∧ q.fr 9 = iv k ∧ q.fr 0 = s0.fr 0 ∧ q.fr 7 = s0.fr 7 ∧ q.fr 8 = s0.fr 8 ∧ q.hp ⟨0, 14, 0⟩ = s0.hp ⟨0, 14, 0⟩ ∧ q.hp ⟨0, 12, 0⟩ = .arr 1 1 3 (rowIx (mixB 9 X Y k)) false) ⟨0, by simp, by omega, by simp, by simp, by simp, by simp, by simp, by simp [h00]⟩ ?_
  rintro m ⟨fr, hp⟩ ⟨k, rfl, hk, hs9, hs0, hs7, hs8, hh14, hh12⟩
  simp at hs9 hs0 hs7 hs8 hh14 hh12
  have hw := wrapN (k := k) (by omega)
  have hml := mixB_len (op := 9) x1 y1 hk
  have hrl : (rowIx (mixB 9 X Y k)).length = 32 := by rw [List.length_map, hml]
  by_cases hlt : k < 32
  · obtain ⟨x, hx, hx01⟩ := x2 k hlt
    obtain ⟨y, hy, hy01⟩ := y2 k hlt
    have hset := mixB_set (op := 9) x1 y1 hlt hx hy
    have hg := mixB_get (op := 9) x1 y1 hlt
    rw [hx] at hg
    have hgx : ∀ h, (rowIx (mixB 9 X Y k))[k]'h = [iv x] := fun h => by rw [List.getElem_map, getW hg]
    have hgy : ∀ h, (Y.map fun x => ([iv x] : List AV))[k]'h = [iv y] := fun h => by rw [List.getElem_map, getW hy]
    have hs1 : (rowIx (mixB 9 X Y k)).set k [iv 0] = rowIx ((mixB 9 X Y k).set k 0) := rowIx_set _ _ _
    have hs2 : (rowIx ((mixB 9 X Y k).set k 0)).set k [iv 1] = rowIx ((mixB 9 X Y k).set k 1) := by rw [rowIx_set, List.set_set]
    have hl2 : (rowIx ((mixB 9 X Y k).set k 0)).length = 32 := by rw [List.length_map, List.length_set, hml]
    have hg2 : ∀ h, (rowIx ((mixB 9 X Y k).set k 0))[k]'h = [iv 0] := fun h => by rw [List.getElem_map, List.getElem_set_self]
    have hkI : (k : Int) < 32 := by omega
    clear x2 y2 hx hy h1 h2 h365 hall h00 hml hg
    rcases hx01 with rfl | rfl
    all_goals rcases hy01 with rfl | rfl
    all_goals simp only [Ma.bitF] at hset
    all_goals simp only [show ((0 : Int) + 0 = 2) = False from by decide, show ((0 : Int) + 0 = 1) = False from by decide, show ((0 : Int) + 1 = 2) = False from by decide, show ((0 : Int) + 1 = 1) = True from by decide, show ((1 : Int) + 0 = 2) = False from by decide, show ((1 : Int) + 0 = 1) = True from by decide, show ((1 : Int) + 1 = 2) = True from by decide, show ((1 : Int) + 1 = 1) = False from by decide, ne_eq, show ((9 : Int) = 11) = False from by decide, show ((9 : Int) = 9) = True from by decide, show ((10 : Int) = 11) = False from by decide, show ((10 : Int) = 9) = False from by decide, show ((11 : Int) = 11) = True from by decide, show ((11 : Int) = 9) = False from by decide, not_true, not_false_iff, and_true, and_false, true_and, false_and, or_false, false_or, or_true, true_or, and_self, or_self, if_true, if_false] at hset
    all_goals
      generalize hM : mixB 9 X Y k = M at *
      generalize hR1 : rowIx M = R1 at *
      generalize hR2 : rowIx (M.set k 0) = R2 at *
      generalize hR3 : rowIx (M.set k 1) = R3 at *
      have hset' := Lib.hid hset
      clear hM hR1 hset
      repeat' (first | ((with_reducible first | apply Wo_u | apply Wo_n | apply ex2 | apply W_sc | apply W_c | apply Wd_u | apply Wd_n | apply ex4 | apply EndQ_ret | apply EndQ_normal); (conv => lhs; simp -implicitDefEqProofs [*]) <;> exact rfl) | (with_reducible first | apply Wo_nil | apply W_ss | apply W_srl | apply W_rl | apply W_sblock | apply W_block | apply W_sskip | apply W_skip | apply W_sret | apply W_ret | apply W_sexit | apply W_exit | apply thenW_n | apply thenW_r | apply thenW_e | apply inB_n | apply inB_r | apply inB_e) | ((with_reducible apply Wo_gt); (exact rfl); ((conv => lhs; simp -implicitDefEqProofs [*]) <;> exact rfl); (conv => lhs; simp -implicitDefEqProofs [*]) <;> exact rfl) | ((with_reducible apply Wo_gf); (exact rfl); ((conv => lhs; simp -implicitDefEqProofs [*]) <;> exact rfl); (exact rfl)) | ((with_reducible apply Wo_gx); (exact rfl); ((conv => lhs; simp -implicitDefEqProofs [*]) <;> exact rfl)) | ((with_reducible apply Wo_gsT); (exact rfl); ((conv => lhs; simp -implicitDefEqProofs [*]) <;> exact rfl)) | ((with_reducible apply Wo_gsF); (exact rfl); ((conv => lhs; simp -implicitDefEqProofs [*]) <;> exact rfl)) | ((with_reducible apply Wd_gsT); (exact rfl); ((conv => lhs; simp -implicitDefEqProofs [*]) <;> exact rfl)) | ((with_reducible apply Wd_gsF); (exact rfl); ((conv => lhs; simp -implicitDefEqProofs [*]) <;> exact rfl)) | ((with_reducible first | apply W_srdl | apply W_rdl); kernel_rfl) | ((with_reducible apply Wd_nil); kernel_rfl) | ((with_reducible apply inB_o); rotate_left; exact rfl) | (intro h h'; try simp [*, -h] at h') | ((with_reducible apply Wd_gx); (exact rfl); ((conv => lhs; simp -implicitDefEqProofs [*]) <;> exact rfl)))
    all_goals exact ⟨_, by omega, k + 1, rfl, hlt, by simp [*], by simp [*], by simp [*], by simp [*], by simp [*], by rw [← hset'.out]; simp [*]⟩
  · obtain rfl : k = 32 := by omega
    rw [hall] at hh12 hrl
    generalize List.zipWith (Ma.bitF 9) X Y = Z at *
    have htk : (rowIx Z).take 32 = rowIx Z := List.take_of_length_le (by omega)
    clear hall h00 x2 y2 hml h1 h2
    exact step0
set_option maxHeartbeats 8000000 in
theorem s288_10 (a b : Int) (ha : Ma.U a) (hb : Ma.U b)  : (lim Tryz.prog E47 X47).dat 288 [iv 10, uv a, uv b] = some [uv (Ma.orW a b)] := by
  refine fnW Tryz.func288 rfl rfl bodyOk_288 rfl rtys_288 rfl ?_
  have h1 := bits_of ha
  have h2 := bits_of hb
  obtain ⟨x1, x2⟩ := bit01 ha
  obtain ⟨y1, y2⟩ := bit01 hb
  have hres := of_zip ha hb (op := 10) (by simp)
  simp only [show ((9 : Int) = 9) = True from by simp, show ((10 : Int) = 9) = False from by decide, show ((10 : Int) = 10) = True from by simp, show ((11 : Int) = 9) = False from by decide, show ((11 : Int) = 10) = False from by decide, if_true, if_false] at hres
  rw [← hres]
  have h365 := s365 (List.zipWith (Ma.bitF 10) (Ma.bitsP a) (Ma.bitsP b)) (by simp [x1, y1])
  have hall := mixB_all (op := 10) x1 y1
  have h00 : mixB 10 (Ma.bitsP a) (Ma.bitsP b) 0 = Ma.bitsP a := by simp [mixB]
  clear hres
  generalize Ma.bitsP a = X at *
  generalize Ma.bitsP b = Y at *
  have xl : (X.map fun x => ([iv x] : List AV)).length = 32 := by simp [x1]
  have yl : (Y.map fun x => ([iv x] : List AV)).length = 32 := by simp [y1]
  refine sgo0 ?_
  refine W_loopS (n := 33) (fun s0 m q => ∃ k : Nat, m = 33 - k ∧ k ≤ 32 ∧ q.fr 9 = iv k ∧ q.fr 0 = s0.fr 0 ∧ q.fr 7 = s0.fr 7 ∧ q.fr 8 = s0.fr 8 ∧ q.hp ⟨0, 14, 0⟩ = s0.hp ⟨0, 14, 0⟩ ∧ q.hp ⟨0, 12, 0⟩ = .arr 1 1 3 (rowIx (mixB 10 X Y k)) false) ⟨0, by simp, by omega, by simp, by simp, by simp, by simp, by simp, by simp [h00]⟩ ?_
  rintro m ⟨fr, hp⟩ ⟨k, rfl, hk, hs9, hs0, hs7, hs8, hh14, hh12⟩
  simp at hs9 hs0 hs7 hs8 hh14 hh12
  have hw := wrapN (k := k) (by omega)
  have hml := mixB_len (op := 10) x1 y1 hk
  have hrl : (rowIx (mixB 10 X Y k)).length = 32 := by rw [List.length_map, hml]
  by_cases hlt : k < 32
  · obtain ⟨x, hx, hx01⟩ := x2 k hlt
    obtain ⟨y, hy, hy01⟩ := y2 k hlt
    have hset := mixB_set (op := 10) x1 y1 hlt hx hy
    have hg := mixB_get (op := 10) x1 y1 hlt
    rw [hx] at hg
    have hgx : ∀ h, (rowIx (mixB 10 X Y k))[k]'h = [iv x] := fun h => by rw [List.getElem_map, getW hg]
    have hgy : ∀ h, (Y.map fun x => ([iv x] : List AV))[k]'h = [iv y] := fun h => by rw [List.getElem_map, getW hy]
    have hs1 : (rowIx (mixB 10 X Y k)).set k [iv 0] = rowIx ((mixB 10 X Y k).set k 0) := rowIx_set _ _ _
    have hs2 : (rowIx ((mixB 10 X Y k).set k 0)).set k [iv 1] = rowIx ((mixB 10 X Y k).set k 1) := by rw [rowIx_set, List.set_set]
    have hl2 : (rowIx ((mixB 10 X Y k).set k 0)).length = 32 := by rw [List.length_map, List.length_set, hml]
    have hg2 : ∀ h, (rowIx ((mixB 10 X Y k).set k 0))[k]'h = [iv 0] := fun h => by rw [List.getElem_map, List.getElem_set_self]
    have hkI : (k : Int) < 32 := by omega
    clear x2 y2 hx hy h1 h2 h365 hall h00 hml hg
    rcases hx01 with rfl | rfl
    all_goals rcases hy01 with rfl | rfl
    all_goals simp only [Ma.bitF] at hset
    all_goals simp only [show ((0 : Int) + 0 = 2) = False from by decide, show ((0 : Int) + 0 = 1) = False from by decide, show ((0 : Int) + 1 = 2) = False from by decide, show ((0 : Int) + 1 = 1) = True from by decide, show ((1 : Int) + 0 = 2) = False from by decide, show ((1 : Int) + 0 = 1) = True from by decide, show ((1 : Int) + 1 = 2) = True from by decide, show ((1 : Int) + 1 = 1) = False from by decide, ne_eq, show ((9 : Int) = 11) = False from by decide, show ((9 : Int) = 9) = True from by decide, show ((10 : Int) = 11) = False from by decide, show ((10 : Int) = 9) = False from by decide, show ((11 : Int) = 11) = True from by decide, show ((11 : Int) = 9) = False from by decide, not_true, not_false_iff, and_true, and_false, true_and, false_and, or_false, false_or, or_true, true_or, and_self, or_self, if_true, if_false] at hset
    all_goals
      generalize hM : mixB 10 X Y k = M at *
      generalize hR1 : rowIx M = R1 at *
      generalize hR2 : rowIx (M.set k 0) = R2 at *
      generalize hR3 : rowIx (M.set k 1) = R3 at *
      have hset' := Lib.hid hset
      clear hM hR1 hset
      repeat' (first | ((with_reducible first | apply Wo_u | apply Wo_n | apply ex2 | apply W_sc | apply W_c | apply Wd_u | apply Wd_n | apply ex4 | apply EndQ_ret | apply EndQ_normal); (conv => lhs; simp -implicitDefEqProofs [*]) <;> exact rfl) | (with_reducible first | apply Wo_nil | apply W_ss | apply W_srl | apply W_rl | apply W_sblock | apply W_block | apply W_sskip | apply W_skip | apply W_sret | apply W_ret | apply W_sexit | apply W_exit | apply thenW_n | apply thenW_r | apply thenW_e | apply inB_n | apply inB_r | apply inB_e) | ((with_reducible apply Wo_gt); (exact rfl); ((conv => lhs; simp -implicitDefEqProofs [*]) <;> exact rfl); (conv => lhs; simp -implicitDefEqProofs [*]) <;> exact rfl) | ((with_reducible apply Wo_gf); (exact rfl); ((conv => lhs; simp -implicitDefEqProofs [*]) <;> exact rfl); (exact rfl)) | ((with_reducible apply Wo_gx); (exact rfl); ((conv => lhs; simp -implicitDefEqProofs [*]) <;> exact rfl)) | ((with_reducible apply Wo_gsT); (exact rfl); ((conv => lhs; simp -implicitDefEqProofs [*]) <;> exact rfl)) | ((with_reducible apply Wo_gsF); (exact rfl); ((conv => lhs; simp -implicitDefEqProofs [*]) <;> exact rfl)) | ((with_reducible apply Wd_gsT); (exact rfl); ((conv => lhs; simp -implicitDefEqProofs [*]) <;> exact rfl)) | ((with_reducible apply Wd_gsF); (exact rfl); ((conv => lhs; simp -implicitDefEqProofs [*]) <;> exact rfl)) | ((with_reducible first | apply W_srdl | apply W_rdl); kernel_rfl) | ((with_reducible apply Wd_nil); kernel_rfl) | ((with_reducible apply inB_o); rotate_left; exact rfl) | (intro h h'; try simp [*, -h] at h') | ((with_reducible apply Wd_gx); (exact rfl); ((conv => lhs; simp -implicitDefEqProofs [*]) <;> exact rfl)))
    all_goals exact ⟨_, by omega, k + 1, rfl, hlt, by simp [*], by simp [*], by simp [*], by simp [*], by simp [*], by rw [← hset'.out]; simp [*]⟩
  · obtain rfl : k = 32 := by omega
    rw [hall] at hh12 hrl
    generalize List.zipWith (Ma.bitF 10) X Y = Z at *
    have htk : (rowIx Z).take 32 = rowIx Z := List.take_of_length_le (by omega)
    clear hall h00 x2 y2 hml h1 h2
    exact step0
set_option maxHeartbeats 8000000 in
theorem s288_11 (a b : Int) (ha : Ma.U a) (hb : Ma.U b)  : (lim Tryz.prog E47 X47).dat 288 [iv 11, uv a, uv b] = some [uv (Ma.xorW a b)] := by
  refine fnW Tryz.func288 rfl rfl bodyOk_288 rfl rtys_288 rfl ?_
  have h1 := bits_of ha
  have h2 := bits_of hb
  obtain ⟨x1, x2⟩ := bit01 ha
  obtain ⟨y1, y2⟩ := bit01 hb
  have hres := of_zip ha hb (op := 11) (by simp)
  simp only [show ((9 : Int) = 9) = True from by simp, show ((10 : Int) = 9) = False from by decide, show ((10 : Int) = 10) = True from by simp, show ((11 : Int) = 9) = False from by decide, show ((11 : Int) = 10) = False from by decide, if_true, if_false] at hres
  rw [← hres]
  have h365 := s365 (List.zipWith (Ma.bitF 11) (Ma.bitsP a) (Ma.bitsP b)) (by simp [x1, y1])
  have hall := mixB_all (op := 11) x1 y1
  have h00 : mixB 11 (Ma.bitsP a) (Ma.bitsP b) 0 = Ma.bitsP a := by simp [mixB]
  clear hres
  generalize Ma.bitsP a = X at *
  generalize Ma.bitsP b = Y at *
  have xl : (X.map fun x => ([iv x] : List AV)).length = 32 := by simp [x1]
  have yl : (Y.map fun x => ([iv x] : List AV)).length = 32 := by simp [y1]
  refine sgo0 ?_
  refine W_loopS (n := 33) (fun s0 m q => ∃ k : Nat, m = 33 - k ∧ k ≤ 32 ∧ q.fr 9 = iv k ∧ q.fr 0 = s0.fr 0 ∧ q.fr 7 = s0.fr 7 ∧ q.fr 8 = s0.fr 8 ∧ q.hp ⟨0, 14, 0⟩ = s0.hp ⟨0, 14, 0⟩ ∧ q.hp ⟨0, 12, 0⟩ = .arr 1 1 3 (rowIx (mixB 11 X Y k)) false) ⟨0, by simp, by omega, by simp, by simp, by simp, by simp, by simp, by simp [h00]⟩ ?_
  rintro m ⟨fr, hp⟩ ⟨k, rfl, hk, hs9, hs0, hs7, hs8, hh14, hh12⟩
  simp at hs9 hs0 hs7 hs8 hh14 hh12
  have hw := wrapN (k := k) (by omega)
  have hml := mixB_len (op := 11) x1 y1 hk
  have hrl : (rowIx (mixB 11 X Y k)).length = 32 := by rw [List.length_map, hml]
  by_cases hlt : k < 32
  · obtain ⟨x, hx, hx01⟩ := x2 k hlt
    obtain ⟨y, hy, hy01⟩ := y2 k hlt
    have hset := mixB_set (op := 11) x1 y1 hlt hx hy
    have hg := mixB_get (op := 11) x1 y1 hlt
    rw [hx] at hg
    have hgx : ∀ h, (rowIx (mixB 11 X Y k))[k]'h = [iv x] := fun h => by rw [List.getElem_map, getW hg]
    have hgy : ∀ h, (Y.map fun x => ([iv x] : List AV))[k]'h = [iv y] := fun h => by rw [List.getElem_map, getW hy]
    have hs1 : (rowIx (mixB 11 X Y k)).set k [iv 0] = rowIx ((mixB 11 X Y k).set k 0) := rowIx_set _ _ _
    have hs2 : (rowIx ((mixB 11 X Y k).set k 0)).set k [iv 1] = rowIx ((mixB 11 X Y k).set k 1) := by rw [rowIx_set, List.set_set]
    have hl2 : (rowIx ((mixB 11 X Y k).set k 0)).length = 32 := by rw [List.length_map, List.length_set, hml]
    have hg2 : ∀ h, (rowIx ((mixB 11 X Y k).set k 0))[k]'h = [iv 0] := fun h => by rw [List.getElem_map, List.getElem_set_self]
    have hkI : (k : Int) < 32 := by omega
    clear x2 y2 hx hy h1 h2 h365 hall h00 hml hg
    rcases hx01 with rfl | rfl
    all_goals rcases hy01 with rfl | rfl
    all_goals simp only [Ma.bitF] at hset
    all_goals simp only [show ((0 : Int) + 0 = 2) = False from by decide, show ((0 : Int) + 0 = 1) = False from by decide, show ((0 : Int) + 1 = 2) = False from by decide, show ((0 : Int) + 1 = 1) = True from by decide, show ((1 : Int) + 0 = 2) = False from by decide, show ((1 : Int) + 0 = 1) = True from by decide, show ((1 : Int) + 1 = 2) = True from by decide, show ((1 : Int) + 1 = 1) = False from by decide, ne_eq, show ((9 : Int) = 11) = False from by decide, show ((9 : Int) = 9) = True from by decide, show ((10 : Int) = 11) = False from by decide, show ((10 : Int) = 9) = False from by decide, show ((11 : Int) = 11) = True from by decide, show ((11 : Int) = 9) = False from by decide, not_true, not_false_iff, and_true, and_false, true_and, false_and, or_false, false_or, or_true, true_or, and_self, or_self, if_true, if_false] at hset
    all_goals
      generalize hM : mixB 11 X Y k = M at *
      generalize hR1 : rowIx M = R1 at *
      generalize hR2 : rowIx (M.set k 0) = R2 at *
      generalize hR3 : rowIx (M.set k 1) = R3 at *
      have hset' := Lib.hid hset
      clear hM hR1 hset
      repeat' (first | ((with_reducible first | apply Wo_u | apply Wo_n | apply ex2 | apply W_sc | apply W_c | apply Wd_u | apply Wd_n | apply ex4 | apply EndQ_ret | apply EndQ_normal); (conv => lhs; simp -implicitDefEqProofs [*]) <;> exact rfl) | (with_reducible first | apply Wo_nil | apply W_ss | apply W_srl | apply W_rl | apply W_sblock | apply W_block | apply W_sskip | apply W_skip | apply W_sret | apply W_ret | apply W_sexit | apply W_exit | apply thenW_n | apply thenW_r | apply thenW_e | apply inB_n | apply inB_r | apply inB_e) | ((with_reducible apply Wo_gt); (exact rfl); ((conv => lhs; simp -implicitDefEqProofs [*]) <;> exact rfl); (conv => lhs; simp -implicitDefEqProofs [*]) <;> exact rfl) | ((with_reducible apply Wo_gf); (exact rfl); ((conv => lhs; simp -implicitDefEqProofs [*]) <;> exact rfl); (exact rfl)) | ((with_reducible apply Wo_gx); (exact rfl); ((conv => lhs; simp -implicitDefEqProofs [*]) <;> exact rfl)) | ((with_reducible apply Wo_gsT); (exact rfl); ((conv => lhs; simp -implicitDefEqProofs [*]) <;> exact rfl)) | ((with_reducible apply Wo_gsF); (exact rfl); ((conv => lhs; simp -implicitDefEqProofs [*]) <;> exact rfl)) | ((with_reducible apply Wd_gsT); (exact rfl); ((conv => lhs; simp -implicitDefEqProofs [*]) <;> exact rfl)) | ((with_reducible apply Wd_gsF); (exact rfl); ((conv => lhs; simp -implicitDefEqProofs [*]) <;> exact rfl)) | ((with_reducible first | apply W_srdl | apply W_rdl); kernel_rfl) | ((with_reducible apply Wd_nil); kernel_rfl) | ((with_reducible apply inB_o); rotate_left; exact rfl) | (intro h h'; try simp [*, -h] at h') | ((with_reducible apply Wd_gx); (exact rfl); ((conv => lhs; simp -implicitDefEqProofs [*]) <;> exact rfl)))
    all_goals exact ⟨_, by omega, k + 1, rfl, hlt, by simp [*], by simp [*], by simp [*], by simp [*], by simp [*], by rw [← hset'.out]; simp [*]⟩
  · obtain rfl : k = 32 := by omega
    rw [hall] at hh12 hrl
    generalize List.zipWith (Ma.bitF 11) X Y = Z at *
    have htk : (rowIx Z).take 32 = rowIx Z := List.take_of_length_le (by omega)
    clear hall h00 x2 y2 hml h1 h2
    exact step0
theorem shlF_nonneg {a : Int} (h : Ma.U a) (k : Nat) : 0 ≤ Ma.shlF a k ∧ Ma.shlF a k < 4294967296 := Ma.shlF_U h k
def shrF (a : Int) (k : Nat) : Int := a / 2 ^ k
theorem shrF_ok {a : Int} (h : Ma.U a) (k : Nat) : 0 ≤ shrF a k ∧ shrF a k < 4294967296 ∧ shrF a (k + 1) = shrF a k / 2 ∧ shrF a 0 = a := by
  unfold shrF
  have h1 := h.1
  have h2 : a / 2 ^ k ≤ a := Int.ediv_le_self _ h1
  refine ⟨Int.ediv_nonneg h1 (Int.le_of_lt (Int.pow_pos (by decide))), by unfold Ma.U at h; omega, ?_, by simp⟩
  rw [Int.pow_succ, Int.ediv_ediv_of_nonneg (Int.le_of_lt (Int.pow_pos (by decide)))]
set_option maxHeartbeats 8000000 in
theorem s289_12 (a b : Int) (ha : Ma.U a) (hb : Ma.U b)  : (lim Tryz.prog E47 X47).dat 289 [iv 12, uv a, uv b] = some [uv (if 31 < b then 0 else a * 2 ^ b.toNat % 4294967296)] := by
  refine fnW Tryz.func289 rfl rfl bodyOk_289 rfl rtys_289 rfl ?_
  have hbb := hb
  unfold Ma.U at hbb
  by_cases h : 31 < b
  · have q0 : (32 : Int) ≤ b := by omega
    rw [if_pos h]
    clear hbb hb ha
    exact step0
  · rw [if_neg h]
    obtain ⟨n, rfl⟩ : ∃ n : Nat, b = n := ⟨b.toNat, by omega⟩
    have hn : n < 32 := by omega
    have q0 : ¬ (32 : Int) ≤ n := by omega
    have v0 : IntKind.u64.wrap a = a := by unfold Ma.U at ha; rw [IntKind.wrap_u64]; omega
    have hz : Ma.shlF a 0 = a := rfl
    have hfin : Ma.shlF a n = a * 2 ^ (n : Int).toNat % 4294967296 := by rw [Int.toNat_natCast]; rw [Ma.shlF_eq ha]
    rw [← hfin]
    clear hfin hbb h
    refine sgo0 ?_
    refine W_loopS (n := n) (fun s0 m q => ∃ k : Nat, m = n - k ∧ k ≤ n ∧ q.fr 0 = s0.fr 0 ∧ q.fr 2 = s0.fr 2 ∧ q.fr 8 = uv k ∧ q.fr 7 = .sc (.int .u64 (Ma.shlF a k))) ⟨0, by simp, by omega, by simp, by simp, by simp, by simp [hz]⟩ ?_
    rintro m ⟨fr, hp⟩ ⟨k, rfl, hk, hs0, hs2, hs8, hs7⟩
    simp at hs0 hs2 hs8 hs7
    have hw : IntKind.u32.wrap ((k : Int) + 1) = (k : Int) + 1 := by rw [IntKind.wrap_u32]; omega
    obtain ⟨s0', s1'⟩ := shlF_nonneg ha k
    have e1 : IntKind.u64.wrap (2 * Ma.shlF a k) = 2 * Ma.shlF a k := by rw [IntKind.wrap_u64]; omega
    have e2 : (2 * Ma.shlF a k).tmod 4294967296 = Ma.shlF a (k + 1) := by rw [Int.tmod_eq_emod_of_nonneg (by omega)]; rfl
    by_cases hlt : k < n
    · have hlI : (k : Int) < n := by omega
      clear ha hb hz
      generalize hF1 : Ma.shlF a (k + 1) = F1 at *
      have hF1' := Lib.hid hF1
      clear hF1
      try clear s2'
      generalize Ma.shlF a k = F0 at *
      exact step16
    · obtain rfl : k = n := by omega
      have hl0 : ¬ (k : Int) < k := by omega
      have hl1 : IntKind.u32.wrap (Ma.shlF a k) = Ma.shlF a k := by rw [IntKind.wrap_u32]; omega
      clear ha hb hz e1 e2
      generalize Ma.shlF a k = F0 at *
      exact step0
set_option maxHeartbeats 8000000 in
theorem s289_13 (a b : Int) (ha : Ma.U a) (hb : Ma.U b)  : (lim Tryz.prog E47 X47).dat 289 [iv 13, uv a, uv b] = some [uv (if 31 < b then 0 else a / 2 ^ b.toNat)] := by
  refine fnW Tryz.func289 rfl rfl bodyOk_289 rfl rtys_289 rfl ?_
  have hbb := hb
  unfold Ma.U at hbb
  by_cases h : 31 < b
  · have q0 : (32 : Int) ≤ b := by omega
    rw [if_pos h]
    clear hbb hb ha
    exact step0
  · rw [if_neg h]
    obtain ⟨n, rfl⟩ : ∃ n : Nat, b = n := ⟨b.toNat, by omega⟩
    have hn : n < 32 := by omega
    have q0 : ¬ (32 : Int) ≤ n := by omega
    have v0 : IntKind.u64.wrap a = a := by unfold Ma.U at ha; rw [IntKind.wrap_u64]; omega
    have hz : shrF a 0 = a := (shrF_ok ha 0).2.2.2
    have hfin : shrF a n = a / 2 ^ (n : Int).toNat := by rw [Int.toNat_natCast]; rfl
    rw [← hfin]
    clear hfin hbb h
    refine sgo0 ?_
    refine W_loopS (n := n) (fun s0 m q => ∃ k : Nat, m = n - k ∧ k ≤ n ∧ q.fr 0 = s0.fr 0 ∧ q.fr 2 = s0.fr 2 ∧ q.fr 8 = uv k ∧ q.fr 7 = .sc (.int .u64 (shrF a k))) ⟨0, by simp, by omega, by simp, by simp, by simp, by simp [hz]⟩ ?_
    rintro m ⟨fr, hp⟩ ⟨k, rfl, hk, hs0, hs2, hs8, hs7⟩
    simp at hs0 hs2 hs8 hs7
    have hw : IntKind.u32.wrap ((k : Int) + 1) = (k : Int) + 1 := by rw [IntKind.wrap_u32]; omega
    obtain ⟨s0', s1', s2', _⟩ := shrF_ok ha k
    have e1 : (shrF a k).tdiv 2 = shrF a (k + 1) := by rw [Int.tdiv_eq_ediv_of_nonneg s0', s2']
    have e2 : IntKind.u64.wrap (shrF a (k + 1)) = shrF a (k + 1) := by rw [IntKind.wrap_u64, s2']; omega
    by_cases hlt : k < n
    · have hlI : (k : Int) < n := by omega
      clear ha hb hz
      generalize hF1 : shrF a (k + 1) = F1 at *
      have hF1' := Lib.hid hF1
      clear hF1
      try clear s2'
      generalize shrF a k = F0 at *
      exact step16
    · obtain rfl : k = n := by omega
      have hl0 : ¬ (k : Int) < k := by omega
      have hl1 : IntKind.u32.wrap (shrF a k) = shrF a k := by rw [IntKind.wrap_u32]; omega
      clear ha hb hz e1 e2
      generalize shrF a k = F0 at *
      exact step0
theorem s290_true : (lim Tryz.prog E47 X47).dat 290 [bv true] = some [uv 1] := lim_dat.2 ⟨60, by kernel_rfl⟩
theorem s290_false : (lim Tryz.prog E47 X47).dat 290 [bv false] = some [uv 0] := lim_dat.2 ⟨60, by kernel_rfl⟩
theorem s218_4 (x y : Int) : (lim Tryz.prog E47 X47).dat 218 [iv 4, uv x, uv y] = some [uv (IntKind.u32.wrap ((IntKind.u64.wrap (IntKind.u64.wrap x + IntKind.u64.wrap y)).tmod 4294967296)), iv 0] := lim_dat.2 ⟨100, by kernel_rfl⟩
theorem s218_5 (x y : Int) : (lim Tryz.prog E47 X47).dat 218 [iv 5, uv x, uv y] = some [uv (IntKind.u32.wrap ((IntKind.u64.wrap (IntKind.u64.wrap (IntKind.u64.wrap x + 4294967296) - IntKind.u64.wrap y)).tmod 4294967296)), iv 0] := lim_dat.2 ⟨100, by kernel_rfl⟩
theorem s218_6 (x y : Int) : (lim Tryz.prog E47 X47).dat 218 [iv 6, uv x, uv y] = some [uv (IntKind.u32.wrap ((IntKind.u64.wrap (IntKind.u64.wrap x * IntKind.u64.wrap y)).tmod 4294967296)), iv 0] := lim_dat.2 ⟨100, by kernel_rfl⟩
set_option maxHeartbeats 4000000 in
theorem s218_7 (x y : Int) (hy : Ma.U y)  : (lim Tryz.prog E47 X47).dat 218 [iv 7, uv x, uv y] = some [uv (if y = 0 then 0 else IntKind.u32.wrap (IntKind.u64.wrap ((IntKind.u64.wrap x).tdiv (IntKind.u64.wrap y)))), iv (if y = 0 then 14 else 0)] := by
  refine fnW Tryz.func218 rfl rfl bodyOk_218 rfl rtys_218 rfl ?_
  have hwy : IntKind.u64.wrap y = y := by unfold Ma.U at hy; rw [IntKind.wrap_u64]; omega
  rw [hwy]
  by_cases h : y = 0
  all_goals have hb := beq_dec y 0
  all_goals simp only [h, if_true, if_false, decide_true, decide_false] at hb ⊢
  all_goals (try subst h)
  all_goals clear hy
  all_goals exact step0
set_option maxHeartbeats 4000000 in
theorem s218_8 (x y : Int) (hy : Ma.U y)  : (lim Tryz.prog E47 X47).dat 218 [iv 8, uv x, uv y] = some [uv (if y = 0 then 0 else IntKind.u32.wrap ((IntKind.u64.wrap x).tmod (IntKind.u64.wrap y))), iv (if y = 0 then 14 else 0)] := by
  refine fnW Tryz.func218 rfl rfl bodyOk_218 rfl rtys_218 rfl ?_
  have hwy : IntKind.u64.wrap y = y := by unfold Ma.U at hy; rw [IntKind.wrap_u64]; omega
  rw [hwy]
  by_cases h : y = 0
  all_goals have hb := beq_dec y 0
  all_goals simp only [h, if_true, if_false, decide_true, decide_false] at hb ⊢
  all_goals (try subst h)
  all_goals clear hy
  all_goals exact step0
set_option maxHeartbeats 4000000 in
theorem s218_9 (x y : Int) (hx : Ma.U x) (hy : Ma.U y)  : (lim Tryz.prog E47 X47).dat 218 [iv 9, uv x, uv y] = some [uv (Ma.andW x y), iv 0] := by
  refine fnW Tryz.func218 rfl rfl bodyOk_218 rfl rtys_218 rfl ?_
  have hc := s288_9 x y hx hy
  generalize (Ma.andW x y) = v1 at *
  clear hx hy
  exact step0
set_option maxHeartbeats 4000000 in
theorem s218_10 (x y : Int) (hx : Ma.U x) (hy : Ma.U y)  : (lim Tryz.prog E47 X47).dat 218 [iv 10, uv x, uv y] = some [uv (Ma.orW x y), iv 0] := by
  refine fnW Tryz.func218 rfl rfl bodyOk_218 rfl rtys_218 rfl ?_
  have hc := s288_10 x y hx hy
  generalize (Ma.orW x y) = v1 at *
  clear hx hy
  exact step0
set_option maxHeartbeats 4000000 in
theorem s218_11 (x y : Int) (hx : Ma.U x) (hy : Ma.U y)  : (lim Tryz.prog E47 X47).dat 218 [iv 11, uv x, uv y] = some [uv (Ma.xorW x y), iv 0] := by
  refine fnW Tryz.func218 rfl rfl bodyOk_218 rfl rtys_218 rfl ?_
  have hc := s288_11 x y hx hy
  generalize (Ma.xorW x y) = v1 at *
  clear hx hy
  exact step0
set_option maxHeartbeats 4000000 in
theorem s218_12 (x y : Int) (hx : Ma.U x) (hy : Ma.U y)  : (lim Tryz.prog E47 X47).dat 218 [iv 12, uv x, uv y] = some [uv (if 31 < y then 0 else x * 2 ^ y.toNat % 4294967296), iv 0] := by
  refine fnW Tryz.func218 rfl rfl bodyOk_218 rfl rtys_218 rfl ?_
  have hc := s289_12 x y hx hy
  generalize (if 31 < y then 0 else x * 2 ^ y.toNat % 4294967296) = v1 at *
  clear hx hy
  exact step0
set_option maxHeartbeats 4000000 in
theorem s218_13 (x y : Int) (hx : Ma.U x) (hy : Ma.U y)  : (lim Tryz.prog E47 X47).dat 218 [iv 13, uv x, uv y] = some [uv (if 31 < y then 0 else x / 2 ^ y.toNat), iv 0] := by
  refine fnW Tryz.func218 rfl rfl bodyOk_218 rfl rtys_218 rfl ?_
  have hc := s289_13 x y hx hy
  generalize (if 31 < y then 0 else x / 2 ^ y.toNat) = v1 at *
  clear hx hy
  exact step0
set_option maxHeartbeats 4000000 in
theorem s218_14 (x y : Int)  : (lim Tryz.prog E47 X47).dat 218 [iv 14, uv x, uv y] = some [uv (if x < y then 1 else 0), iv 0] := by
  refine fnW Tryz.func218 rfl rfl bodyOk_218 rfl rtys_218 rfl ?_
  have hb := beq_dec x y
  have ht := s290_true
  have hf := s290_false
  by_cases h : x < y
  all_goals simp only [h, if_true, if_false, decide_true, decide_false] at hb ⊢
  all_goals (try subst h)
  all_goals exact step0
set_option maxHeartbeats 4000000 in
theorem s218_15 (x y : Int)  : (lim Tryz.prog E47 X47).dat 218 [iv 15, uv x, uv y] = some [uv (if x = y then 1 else 0), iv 0] := by
  refine fnW Tryz.func218 rfl rfl bodyOk_218 rfl rtys_218 rfl ?_
  have hb := beq_dec x y
  have ht := s290_true
  have hf := s290_false
  by_cases h : x = y
  all_goals simp only [h, if_true, if_false, decide_true, decide_false] at hb ⊢
  all_goals (try subst h)
  all_goals exact step0
theorem s218 (op : Nat) (x y : Int) (h4 : 4 ≤ op) (h15 : op ≤ 15) (hx : Ma.U x) (hy : Ma.U y) : (lim Tryz.prog E47 X47).dat 218 [iv op, uv x, uv y] = some [uv ((Ma.apP op x y).getD 0), iv (if (Ma.apP op x y).isSome then 0 else 14)] := by
  have x0 := hx
  have y0 := hy
  unfold Ma.U at x0 y0
  have wx : IntKind.u64.wrap x = x := by rw [IntKind.wrap_u64]; omega
  have wy : IntKind.u64.wrap y = y := by rw [IntKind.wrap_u64]; omega
  have hm : 0 ≤ x * y ∧ x * y ≤ 4294967295 * 4294967295 := ⟨Int.mul_nonneg x0.1 y0.1, Int.mul_le_mul (by omega) (by omega) y0.1 (by decide)⟩
  obtain rfl | rfl | rfl | rfl | rfl | rfl | rfl | rfl | rfl | rfl | rfl | rfl : op = 4 ∨ op = 5 ∨ op = 6 ∨ op = 7 ∨ op = 8 ∨ op = 9 ∨ op = 10 ∨ op = 11 ∨ op = 12 ∨ op = 13 ∨ op = 14 ∨ op = 15 := by omega
  · refine (s218_4 x y).trans ?_
    rw [wx, wy, show IntKind.u64.wrap (x + y) = x + y from by rw [IntKind.wrap_u64]; omega, Int.tmod_eq_emod_of_nonneg (by omega), show IntKind.u32.wrap ((x + y) % 4294967296) = (x + y) % 4294967296 from by rw [IntKind.wrap_u32]; omega]
    simp [Ma.apP]
  · refine (s218_5 x y).trans ?_
    rw [wx, wy, show IntKind.u64.wrap (x + 4294967296) = x + 4294967296 from by rw [IntKind.wrap_u64]; omega, show IntKind.u64.wrap (x + 4294967296 - y) = x + 4294967296 - y from by rw [IntKind.wrap_u64]; omega, Int.tmod_eq_emod_of_nonneg (by omega), show IntKind.u32.wrap ((x + 4294967296 - y) % 4294967296) = (x - y) % 4294967296 from by rw [IntKind.wrap_u32]; omega]
    simp [Ma.apP]
  · refine (s218_6 x y).trans ?_
    rw [wx, wy, show IntKind.u64.wrap (x * y) = x * y from by rw [IntKind.wrap_u64]; omega, Int.tmod_eq_emod_of_nonneg hm.1, show IntKind.u32.wrap (x * y % 4294967296) = x * y % 4294967296 from by rw [IntKind.wrap_u32]; omega]
    simp [Ma.apP]
  · refine (s218_7 x y hy).trans ?_
    rw [wx, wy]
    by_cases h : y = 0
    · simp [Ma.apP, h]
    · have h1 := Ma.apP_U (op := 7) hx hy (x := x / y) (by simp [Ma.apP, h])
      unfold Ma.U at h1
      rw [Int.tdiv_eq_ediv_of_nonneg x0.1, show IntKind.u64.wrap (x / y) = x / y from by rw [IntKind.wrap_u64]; omega, show IntKind.u32.wrap (x / y) = x / y from by rw [IntKind.wrap_u32]; omega]
      simp [Ma.apP, h]
  · refine (s218_8 x y hy).trans ?_
    rw [wx, wy]
    by_cases h : y = 0
    · simp [Ma.apP, h]
    · have h1 := Ma.apP_U (op := 8) hx hy (x := x % y) (by simp [Ma.apP, h])
      unfold Ma.U at h1
      rw [Int.tmod_eq_emod_of_nonneg x0.1, show IntKind.u32.wrap (x % y) = x % y from by rw [IntKind.wrap_u32]; omega]
      simp [Ma.apP, h]
  · refine (s218_9 x y hx hy).trans ?_; simp [Ma.apP]
  · refine (s218_10 x y hx hy).trans ?_; simp [Ma.apP]
  · refine (s218_11 x y hx hy).trans ?_; simp [Ma.apP]
  · refine (s218_12 x y hx hy).trans ?_; simp [Ma.apP]
  · refine (s218_13 x y hx hy).trans ?_; simp [Ma.apP]
  · refine (s218_14 x y).trans ?_; simp [Ma.apP]
  · refine (s218_15 x y).trans ?_; simp [Ma.apP]
end Go.Proofs.YtaeeffddinppeaaGreatDoor
namespace Go.Proofs.YtaeeffddinppeaaGreatDoor
open Go Go.Ab
attribute [-simp] Prog.bind getCs putCs
attribute [local simp ↓] run_bind
attribute [local simp ↓] runF_bind
attribute [local simp] run_getCsN runF_getCsN facetsC putCs_one run_putCsN runF_putCsN facetsW facetsH
attribute [local simp] take1 br_len br_reg br_regg bt_reg bt_pc bt_rd bt_steps bt_en bt_out br_0 bh_0 br_17 bh_17 br_18 bh_18 br_19 bh_19 br_20 bh_20 br_21 bh_21 br_22 bh_22 br_23 bh_23 br_24 bh_24 br_25 bh_25 br_26 bh_26 br_27 bh_27
set_option maxHeartbeats 8000000 in
theorem s162_opi {code : List Int} {inp : ByteArray} {pc : Int} {rg : List Int} {gm nm : Nat} {rd steps en : Int} {go no gc gk gn n : Nat} (hp1 : Hp) (RD RK : List (List AV)) (cs : List Int) (na nb nc pn stn : Nat) (xa xb : Int) (op : Nat) (h4 : 4 ≤ op) (h15 : op ≤ 15) (xc : Int) (hc16 : nc < 16) (hgc : rg[nc]? = some xc) (hxb : Ma.U xb) (hxc : Ma.U xc) (v : Int) (hv : Ma.apP op xb xc = some v) (hrl : rg.length = 16) (hpn : pc = pn) (hst : steps = stn) (hx : hp1 ⟨0, 13, 0⟩ = .box 1 (bxR code inp pc rg gm nm rd steps en go no gc gk gn n) false) (hc : hp1 ⟨0, 13, 24⟩ = .arr gc 4 119 RD false) (hcl : RD.length = n) (hk : hp1 ⟨0, 13, 25⟩ = .arr gk 1 4 RK false) (hkl : RK.length = n) (hn : hp1 ⟨0, 13, 28⟩ = .arr gn 1 3 (rowIx cs) false) (hnl : cs.length = n)
    (hpl : pn < n) (hn1 : n ≤ 1048576) (hcp : RD[pn]? = some [iv op, iv na, iv nb, iv nc]) (hkp : RK[pn]? = some [bv true]) (hst1 : stn < 9223372036854775806) (ha : na < 16) (hb16 : nb < 16) (hga : rg[na]? = some xa) (hgb : rg[nb]? = some xb) (d : Nat) :
    ∃ hp', (lim Tryz.prog E47 X47).hpc 0 d 162 [.ptr ⟨0, 13, 0⟩ 1 0] hp1 = some (.tup [], hp') ∧ (∃ cs' : List Int, cs'.length = n ∧ hp' ⟨0, 13, 28⟩ = .arr gn 1 3 (rowIx cs') false) ∧ hp' ⟨0, 13, 0⟩ = .box 1 (bxR code inp ((pn : Int) + 1) (rg.set na v) gm nm rd ((stn : Int) + 1) en go no gc gk gn n) false ∧ ∀ y : Nm, y.d = 0 → y ≠ ⟨0, 13, 0⟩ → y ≠ ⟨0, 13, 28⟩ → hp' y = hp1 y := by
  refine unkey ?_
  refine lim_hpcW Tryz.func162 rfl rfl bodyOk_162 rfl rfl ?_
  have hNA := fun (k : Nat) (h : k < 16) => (⟨by omega, by omega⟩ : 1 + k ≤ 27 ∧ 1 + k < 28)
  have hA := hNA _ ha
  have hB := hNA _ hb16
  have hga' := getW hga
  have hgb' := getW hgb
  subst hpn hst
  have hst1' := wrapN (k := stn) (by omega)
  have hp1' := wrapN (k := pn) (by omega)
  have hcg : ∀ h, RD[pn]'h = [iv op, iv na, iv nb, iv nc] := fun h => by rw [List.getElem?_eq_getElem h] at hcp; exact Option.some.inj hcp
  have hkg : ∀ h, RK[pn]'h = [bv true] := fun h => by rw [List.getElem?_eq_getElem h] at hkp; exact Option.some.inj hkp
  obtain ⟨cx, hcx0⟩ : ∃ cx, cs[pn]? = some cx := ⟨_, List.getElem?_eq_getElem (by omega)⟩
  have hRl : (rowIx cs).length = n := by simp [hnl]
  have hRp : (rowIx cs)[pn]? = some [iv cx] := by rw [List.getElem?_map, hcx0]; rfl
  have hRg : ∀ h, (rowIx cs)[pn]'h = [iv cx] := fun h => by rw [List.getElem?_eq_getElem h] at hRp; exact Option.some.inj hRp
  have hRs := rowIx_set cs pn (IntKind.i64.wrap (cx + 1))
  have hcsl : (cs.set pn (IntKind.i64.wrap (cx + 1))).length = n := by simp [hnl]
  generalize cs.set pn (IntKind.i64.wrap (cx + 1)) = cs' at hRs hcsl
  generalize rowIx cs = RN at hn hRl hRp hRg hRs
  clear hcx0 hnl
  have hpI : ¬ (n : Int) ≤ pn := by omega
  have hp0' : ¬ (pn : Int) < 0 := by omega
  have hap := s218 op xb xc h4 h15 hxb hxc
  rw [hv] at hap
  simp only [Option.getD_some, Option.getD_none, Option.isSome_some, Option.isSome_none, if_true, if_false, Bool.false_eq_true] at hap
  have hC := hNA _ hc16
  have hgc' := getW hgc
  have e18 : ((op : Int) == 18) = false := by rw [beq_dec]; exact decide_eq_false (by omega)
  have e19 : ((op : Int) == 19) = false := by rw [beq_dec]; exact decide_eq_false (by omega)
  have e20 : ((op : Int) == 20) = false := by rw [beq_dec]; exact decide_eq_false (by omega)
  have e21 : ((op : Int) == 21) = false := by rw [beq_dec]; exact decide_eq_false (by omega)
  have e22 : ((op : Int) == 22) = false := by rw [beq_dec]; exact decide_eq_false (by omega)
  have e1 : ((op : Int) == 1) = false := by rw [beq_dec]; exact decide_eq_false (by omega)
  have e2 : ((op : Int) == 2) = false := by rw [beq_dec]; exact decide_eq_false (by omega)
  have e3 : ((op : Int) == 3) = false := by rw [beq_dec]; exact decide_eq_false (by omega)
  have e16 : ((op : Int) == 16) = false := by rw [beq_dec]; exact decide_eq_false (by omega)
  have e17 : ((op : Int) == 17) = false := by rw [beq_dec]; exact decide_eq_false (by omega)
  have e27 : ((op : Int) == 27) = false := by rw [beq_dec]; exact decide_eq_false (by omega)
  have e23 : ((op : Int) == 23) = false := by rw [beq_dec]; exact decide_eq_false (by omega)
  have e24 : ((op : Int) == 24) = false := by rw [beq_dec]; exact decide_eq_false (by omega)
  have e25 : ((op : Int) == 25) = false := by rw [beq_dec]; exact decide_eq_false (by omega)
  have e26 : ((op : Int) == 26) = false := by rw [beq_dec]; exact decide_eq_false (by omega)
  clear hv hxb hxc h4 h15
  have hset := fun d hp => s215 (code := code) (inp := inp) (pc := pn) (rg := rg) (gm := gm) (nm := nm) (rd := rd) (steps := (stn : Int) + 1) (en := en) (go := go) (no := no) (gc := gc) (gk := gk) (gn := gn) (n := n) na ha (v) (by omega) (by omega) hrl d hp
  clear hNA
  exact step14
set_option maxHeartbeats 8000000 in
theorem s162_opo {code : List Int} {inp : ByteArray} {pc : Int} {rg : List Int} {gm nm : Nat} {rd steps en : Int} {go no gc gk gn n : Nat} (hp1 : Hp) (RD RK : List (List AV)) (cs : List Int) (na nb nc pn stn : Nat) (xa xb : Int) (op : Nat) (h4 : 4 ≤ op) (h15 : op ≤ 15) (xc : Int) (hc16 : nc < 16) (hgc : rg[nc]? = some xc) (hxb : Ma.U xb) (hxc : Ma.U xc) (hv : Ma.apP op xb xc = none) (hrl : rg.length = 16) (hpn : pc = pn) (hst : steps = stn) (hx : hp1 ⟨0, 13, 0⟩ = .box 1 (bxR code inp pc rg gm nm rd steps en go no gc gk gn n) false) (hc : hp1 ⟨0, 13, 24⟩ = .arr gc 4 119 RD false) (hcl : RD.length = n) (hk : hp1 ⟨0, 13, 25⟩ = .arr gk 1 4 RK false) (hkl : RK.length = n) (hn : hp1 ⟨0, 13, 28⟩ = .arr gn 1 3 (rowIx cs) false) (hnl : cs.length = n)
    (hpl : pn < n) (hn1 : n ≤ 1048576) (hcp : RD[pn]? = some [iv op, iv na, iv nb, iv nc]) (hkp : RK[pn]? = some [bv true]) (hst1 : stn < 9223372036854775806) (ha : na < 16) (hb16 : nb < 16) (hga : rg[na]? = some xa) (hgb : rg[nb]? = some xb) (d : Nat) :
    ∃ hp', (lim Tryz.prog E47 X47).hpc 0 d 162 [.ptr ⟨0, 13, 0⟩ 1 0] hp1 = some (.tup [], hp') ∧ (∃ cs' : List Int, cs'.length = n ∧ hp' ⟨0, 13, 28⟩ = .arr gn 1 3 (rowIx cs') false) ∧ hp' ⟨0, 13, 0⟩ = .box 1 (bxR code inp (pn : Int) rg gm nm rd ((stn : Int) + 1) 2 go no gc gk gn n) false ∧ ∀ y : Nm, y.d = 0 → y ≠ ⟨0, 13, 0⟩ → y ≠ ⟨0, 13, 28⟩ → hp' y = hp1 y := by
  refine unkey ?_
  refine lim_hpcW Tryz.func162 rfl rfl bodyOk_162 rfl rfl ?_
  have hNA := fun (k : Nat) (h : k < 16) => (⟨by omega, by omega⟩ : 1 + k ≤ 27 ∧ 1 + k < 28)
  have hA := hNA _ ha
  have hB := hNA _ hb16
  have hga' := getW hga
  have hgb' := getW hgb
  subst hpn hst
  have hst1' := wrapN (k := stn) (by omega)
  have hp1' := wrapN (k := pn) (by omega)
  have hcg : ∀ h, RD[pn]'h = [iv op, iv na, iv nb, iv nc] := fun h => by rw [List.getElem?_eq_getElem h] at hcp; exact Option.some.inj hcp
  have hkg : ∀ h, RK[pn]'h = [bv true] := fun h => by rw [List.getElem?_eq_getElem h] at hkp; exact Option.some.inj hkp
  obtain ⟨cx, hcx0⟩ : ∃ cx, cs[pn]? = some cx := ⟨_, List.getElem?_eq_getElem (by omega)⟩
  have hRl : (rowIx cs).length = n := by simp [hnl]
  have hRp : (rowIx cs)[pn]? = some [iv cx] := by rw [List.getElem?_map, hcx0]; rfl
  have hRg : ∀ h, (rowIx cs)[pn]'h = [iv cx] := fun h => by rw [List.getElem?_eq_getElem h] at hRp; exact Option.some.inj hRp
  have hRs := rowIx_set cs pn (IntKind.i64.wrap (cx + 1))
  have hcsl : (cs.set pn (IntKind.i64.wrap (cx + 1))).length = n := by simp [hnl]
  generalize cs.set pn (IntKind.i64.wrap (cx + 1)) = cs' at hRs hcsl
  generalize rowIx cs = RN at hn hRl hRp hRg hRs
  clear hcx0 hnl
  have hpI : ¬ (n : Int) ≤ pn := by omega
  have hp0' : ¬ (pn : Int) < 0 := by omega
  have hap := s218 op xb xc h4 h15 hxb hxc
  rw [hv] at hap
  simp only [Option.getD_some, Option.getD_none, Option.isSome_some, Option.isSome_none, if_true, if_false, Bool.false_eq_true] at hap
  have hC := hNA _ hc16
  have hgc' := getW hgc
  have e18 : ((op : Int) == 18) = false := by rw [beq_dec]; exact decide_eq_false (by omega)
  have e19 : ((op : Int) == 19) = false := by rw [beq_dec]; exact decide_eq_false (by omega)
  have e20 : ((op : Int) == 20) = false := by rw [beq_dec]; exact decide_eq_false (by omega)
  have e21 : ((op : Int) == 21) = false := by rw [beq_dec]; exact decide_eq_false (by omega)
  have e22 : ((op : Int) == 22) = false := by rw [beq_dec]; exact decide_eq_false (by omega)
  have e1 : ((op : Int) == 1) = false := by rw [beq_dec]; exact decide_eq_false (by omega)
  have e2 : ((op : Int) == 2) = false := by rw [beq_dec]; exact decide_eq_false (by omega)
  have e3 : ((op : Int) == 3) = false := by rw [beq_dec]; exact decide_eq_false (by omega)
  have e16 : ((op : Int) == 16) = false := by rw [beq_dec]; exact decide_eq_false (by omega)
  have e17 : ((op : Int) == 17) = false := by rw [beq_dec]; exact decide_eq_false (by omega)
  have e27 : ((op : Int) == 27) = false := by rw [beq_dec]; exact decide_eq_false (by omega)
  have e23 : ((op : Int) == 23) = false := by rw [beq_dec]; exact decide_eq_false (by omega)
  have e24 : ((op : Int) == 24) = false := by rw [beq_dec]; exact decide_eq_false (by omega)
  have e25 : ((op : Int) == 25) = false := by rw [beq_dec]; exact decide_eq_false (by omega)
  have e26 : ((op : Int) == 26) = false := by rw [beq_dec]; exact decide_eq_false (by omega)
  clear hv hxb hxc h4 h15
  clear hNA
  exact step14
end Go.Proofs.YtaeeffddinppeaaGreatDoor
