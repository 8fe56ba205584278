/- A part of the proof: Mb, Mc, Md, Me, Mf. -/
import Derived.Test.YtaeeffddinppeaaGreatDoorR11
set_option linter.unusedSimpArgs false
set_option linter.unusedVariables false
namespace Go.Proofs.YtaeeffddinppeaaGreatDoor
open Go Go.Ab Go.Ma
section
variable {P : Program} {E : Cfg} {k : Nat} {call : Orc} {all : Array Oper} {os : List Oper} {fr : Nat → AV} {hp : Hp} {Q : AS → Prop} {d d' j : Nat} {op : Op} {ty : TypeId} {pos : String} {aft : Array Edge} {b : Bool} {fs : List Foot}
theorem Wd_gx {us : List Value} (hd : (all[j]?).bind (·.dst) = some d') (hc : fr d' = .sc (.tuple ⟨us⟩)) (r : Wd P E k call all os ⟨setd fr (some d) (.sc undef), hp⟩ (⟨[], []⟩ :: fs) Q) : Wd P E k call all (⟨some d, op, ty, pos, aft, some (j, b)⟩ :: os) ⟨fr, hp⟩ fs Q := by
  obtain ⟨st', fs', h1, h2⟩ := r
  exact ⟨st', fs', by simp only [runDraw, stepF, guardA, hd, hc]; exact h1, h2⟩
end
theorem beq_dec (v w : Int) : (v == w) = decide (v = w) := by by_cases h : v = w <;> simp [h]
theorem bne_dec (v w : Int) : (v != w) = decide (v ≠ w) := by by_cases h : v = w <;> simp [h]
def shOk (n : Nat) : Option (List AV) → Bool
  | some [.agg [.sc (.string s), .sc (.bool a), .sc (.bool b), .sc (.int .i64 c)]] => (decide (s ≠ ⟨#[]⟩) == (decide (1 ≤ n) && decide (n ≤ 27))) && (a == hasA n) && (b == hasB n) && decide (c = (kC n : Int))
  | _ => false
theorem shape_all : (List.range 256).all (fun n => shOk n ((evCall Tryz.prog E00 X00 300).dat 176 [iv n])) = true := by kernel_rfl
theorem m176 (n : Nat) (h : n < 256) : ∃ s, (lim Tryz.prog E00 X00).dat 176 [iv n] = some [.agg [.sc (.string s), bv (hasA n), bv (hasB n), iv (kC n)]] ∧ decide (s = ⟨#[]⟩) = !(decide (1 ≤ n) && decide (n ≤ 27)) := by
  have h1 := List.all_eq_true.1 shape_all n (List.mem_range.2 h)
  generalize hr : (evCall Tryz.prog E00 X00 300).dat 176 [iv n] = r at h1
  unfold shOk at h1
  split at h1
  · rename_i s a b c
    simp only [Bool.and_eq_true, beq_iff_eq, decide_eq_true_eq] at h1
    obtain ⟨⟨⟨h2, h3⟩, h4⟩, h5⟩ := h1
    subst h3 h4 h5
    refine ⟨s, lim_dat.2 ⟨300, hr⟩, ?_⟩
    rw [← h2]
    by_cases e : s = ⟨#[]⟩ <;> simp [e]
  · cases h1
set_option maxHeartbeats 1000000 in
theorem m177 (v m : Int) (n : Bool)  : (lim Tryz.prog E00 X00).dat 177 [iv v, iv m, bv n] = some [bv (wi n v m)] := by
  refine fnW Tryz.func177 rfl rfl bodyOk_177 rfl rtys_177 rfl ?_
  unfold wi
  cases n
  all_goals
      repeat' (first | ((with_reducible first | apply Wo_u | apply Wo_n | apply ex2 | apply W_sc | apply W_c | apply Wd_u | apply Wd_n | apply ex4 | apply EndQ_ret | apply EndQ_normal); (conv => lhs; simp -implicitDefEqProofs [*]) <;> exact rfl) | (with_reducible first | apply Wo_nil | apply W_ss | apply W_srl | apply W_rl | apply W_sblock | apply W_block | apply W_sskip | apply W_skip | apply W_sret | apply W_ret | apply W_sexit | apply W_exit | apply thenW_n | apply thenW_r | apply thenW_e | apply inB_n | apply inB_r | apply inB_e) | ((with_reducible apply Wo_gt); (exact rfl); ((conv => lhs; simp -implicitDefEqProofs [*]) <;> exact rfl); (conv => lhs; simp -implicitDefEqProofs [*]) <;> exact rfl) | ((with_reducible apply Wo_gf); (exact rfl); ((conv => lhs; simp -implicitDefEqProofs [*]) <;> exact rfl); (exact rfl)) | ((with_reducible apply Wo_gx); (exact rfl); ((conv => lhs; simp -implicitDefEqProofs [*]) <;> exact rfl)) | ((with_reducible apply Wo_gsT); (exact rfl); ((conv => lhs; simp -implicitDefEqProofs [*]) <;> exact rfl)) | ((with_reducible apply Wo_gsF); (exact rfl); ((conv => lhs; simp -implicitDefEqProofs [*]) <;> exact rfl)) | ((with_reducible apply Wd_gsT); (exact rfl); ((conv => lhs; simp -implicitDefEqProofs [*]) <;> exact rfl)) | ((with_reducible apply Wd_gsF); (exact rfl); ((conv => lhs; simp -implicitDefEqProofs [*]) <;> exact rfl)) | ((with_reducible first | apply W_srdl | apply W_rdl); kernel_rfl) | ((with_reducible apply Wd_nil); kernel_rfl) | ((with_reducible apply inB_o); rotate_left; exact rfl) | (intro h h'; try simp [*, -h] at h') | ((with_reducible apply Wd_gx); (exact rfl); ((conv => lhs; simp -implicitDefEqProofs [*]) <;> exact rfl)))
  all_goals (try simp [*, beq_dec])
set_option maxHeartbeats 1000000 in
theorem m175 (n : Nat) (h : n < 256)  : (lim Tryz.prog E00 X00).dat 175 [iv n] = some [bv (decide (1 ≤ n) && decide (n ≤ 27))] := by
  refine fnW Tryz.func175 rfl rfl bodyOk_175 rfl rtys_175 rfl ?_
  obtain ⟨s, hs, hq⟩ := m176 n h
  generalize (decide (1 ≤ n) && decide (n ≤ 27)) = kn at *
  repeat' (first | ((with_reducible first | apply Wo_u | apply Wo_n | apply ex2 | apply W_sc | apply W_c | apply Wd_u | apply Wd_n | apply ex4 | apply EndQ_ret | apply EndQ_normal); (conv => lhs; simp -implicitDefEqProofs [*]) <;> exact rfl) | (with_reducible first | apply Wo_nil | apply W_ss | apply W_srl | apply W_rl | apply W_sblock | apply W_block | apply W_sskip | apply W_skip | apply W_sret | apply W_ret | apply W_sexit | apply W_exit | apply thenW_n | apply thenW_r | apply thenW_e | apply inB_n | apply inB_r | apply inB_e) | ((with_reducible apply Wo_gt); (exact rfl); ((conv => lhs; simp -implicitDefEqProofs [*]) <;> exact rfl); (conv => lhs; simp -implicitDefEqProofs [*]) <;> exact rfl) | ((with_reducible apply Wo_gf); (exact rfl); ((conv => lhs; simp -implicitDefEqProofs [*]) <;> exact rfl); (exact rfl)) | ((with_reducible apply Wo_gx); (exact rfl); ((conv => lhs; simp -implicitDefEqProofs [*]) <;> exact rfl)) | ((with_reducible apply Wo_gsT); (exact rfl); ((conv => lhs; simp -implicitDefEqProofs [*]) <;> exact rfl)) | ((with_reducible apply Wo_gsF); (exact rfl); ((conv => lhs; simp -implicitDefEqProofs [*]) <;> exact rfl)) | ((with_reducible apply Wd_gsT); (exact rfl); ((conv => lhs; simp -implicitDefEqProofs [*]) <;> exact rfl)) | ((with_reducible apply Wd_gsF); (exact rfl); ((conv => lhs; simp -implicitDefEqProofs [*]) <;> exact rfl)) | ((with_reducible first | apply W_srdl | apply W_rdl); kernel_rfl) | ((with_reducible apply Wd_nil); kernel_rfl) | ((with_reducible apply inB_o); rotate_left; exact rfl) | (intro h h'; try simp [*, -h] at h') | ((with_reducible apply Wd_gx); (exact rfl); ((conv => lhs; simp -implicitDefEqProofs [*]) <;> exact rfl)))
  all_goals simp [hq]
theorem rightI_eq (n a b c : Nat) : rightI ⟨n, a, b, c⟩ = ((decide (1 ≤ n) && decide (n ≤ 27)) && wi (hasA n) a 15 && wi (hasB n) b 15 && wi (decide ((kC n : Int) ≠ 0)) c (if (kC n : Int) = 2 then 15 else 65535)) := by
  have e1 : decide (1 ≤ (n : Int)) = decide (1 ≤ n) := decide_eq_decide.2 (by omega)
  have e2 : decide ((n : Int) ≤ 27) = decide (n ≤ 27) := decide_eq_decide.2 (by omega)
  have e3 : decide (kC (n : Int) ≠ 0) = decide ((kC n : Int) ≠ 0) := decide_eq_decide.2 (by omega)
  have e4 : (if kC (n : Int) = 2 then (15 : Int) else 65535) = if (kC n : Int) = 2 then 15 else 65535 := by
    by_cases h : kC (n : Int) = 2
    · rw [if_pos h, if_pos (by omega)]
    · rw [if_neg h, if_neg (by omega)]
  unfold rightI
  simp only [e1, e2, e3, e4]
set_option maxHeartbeats 4000000 in
theorem m132 (n a b c : Nat) (h : n < 256)  : (lim Tryz.prog E00 X00).dat 132 [.agg [iv n, iv a, iv b, iv c]] = some [bv (rightI ⟨n, a, b, c⟩)] := by
  refine fnW Tryz.func132 rfl rfl bodyOk_132 rfl rtys_132 rfl ?_
  obtain ⟨s, hs, hq⟩ := m176 n h
  have h175 := m175 n h
  have ha := m177 a 15 (hasA n)
  have hb := m177 b 15 (hasB n)
  have hc1 := m177 c 65535 (decide ((kC n : Int) ≠ 0))
  have hc2 := m177 c 15 (decide ((kC n : Int) ≠ 0))
  rw [rightI_eq]
  have hkb := bne_dec (kC n : Int) 0
  generalize (decide (1 ≤ n) && decide (n ≤ 27)) = kn at *
  generalize hasA n = xa at *
  generalize hasB n = xb at *
  generalize (kC n : Int) = kc at *
  by_cases h2 : kc = 2
  all_goals
    generalize decide (kc ≠ 0) = k0 at *
    simp only [h2, if_true, if_false]
    generalize wi xa a 15 = wa at *
    generalize wi xb b 15 = wb at *
    generalize wi k0 c 15 = wc1 at *
    generalize wi k0 c 65535 = wc2 at *
    try (subst h2; obtain rfl : k0 = true := by simpa using hkb.symm)
    repeat' (first | ((with_reducible first | apply Wo_u | apply Wo_n | apply ex2 | apply W_sc | apply W_c | apply Wd_u | apply Wd_n | apply ex4 | apply EndQ_ret | apply EndQ_normal); (conv => lhs; simp -implicitDefEqProofs [*]) <;> exact rfl) | (with_reducible first | apply Wo_nil | apply W_ss | apply W_srl | apply W_rl | apply W_sblock | apply W_block | apply W_sskip | apply W_skip | apply W_sret | apply W_ret | apply W_sexit | apply W_exit | apply thenW_n | apply thenW_r | apply thenW_e | apply inB_n | apply inB_r | apply inB_e) | ((with_reducible apply Wo_gt); (exact rfl); ((conv => lhs; simp -implicitDefEqProofs [*]) <;> exact rfl); (conv => lhs; simp -implicitDefEqProofs [*]) <;> exact rfl) | ((with_reducible apply Wo_gf); (exact rfl); ((conv => lhs; simp -implicitDefEqProofs [*]) <;> exact rfl); (exact rfl)) | ((with_reducible apply Wo_gx); (exact rfl); ((conv => lhs; simp -implicitDefEqProofs [*]) <;> exact rfl)) | ((with_reducible apply Wo_gsT); (exact rfl); ((conv => lhs; simp -implicitDefEqProofs [*]) <;> exact rfl)) | ((with_reducible apply Wo_gsF); (exact rfl); ((conv => lhs; simp -implicitDefEqProofs [*]) <;> exact rfl)) | ((with_reducible apply Wd_gsT); (exact rfl); ((conv => lhs; simp -implicitDefEqProofs [*]) <;> exact rfl)) | ((with_reducible apply Wd_gsF); (exact rfl); ((conv => lhs; simp -implicitDefEqProofs [*]) <;> exact rfl)) | ((with_reducible first | apply W_srdl | apply W_rdl); kernel_rfl) | ((with_reducible apply Wd_nil); kernel_rfl) | ((with_reducible apply inB_o); rotate_left; exact rfl) | (intro h h'; try simp [*, -h] at h') | ((with_reducible apply Wd_gx); (exact rfl); ((conv => lhs; simp -implicitDefEqProofs [*]) <;> exact rfl)))
  all_goals simp [*]
def decP (w : Int) : List AV := if rightI (insW w) then [iv (insW w).op, iv (insW w).a, iv (insW w).b, iv (insW w).c] else [iv 0, iv 0, iv 0, iv 0]
theorem U_and {x : Int} (h : Ma.U x) : IntKind.u32.wrap (andW x 15) = x % 16 ∧ IntKind.u32.wrap (andW x 65535) = x % 65536 := by
  rw [andW_15 h, andW_65535 h]
  unfold Ma.U at h
  exact ⟨by rw [IntKind.wrap_u32]; omega, by rw [IntKind.wrap_u32]; omega⟩
end Go.Proofs.YtaeeffddinppeaaGreatDoor
namespace Go.Proofs.YtaeeffddinppeaaGreatDoor
open Go Go.Ab Go.Ma
set_option maxHeartbeats 4000000 in
theorem m362 (w : Int) (hU : Ma.U w)  : (lim Tryz.prog E00 X00).dat 362 [uv w] = some [.agg (decP w), iv (if rightI (insW w) then 0 else 7)] := by
  refine fnW Tryz.func362 rfl rfl bodyOk_362 rfl rtys_362 rfl ?_
  obtain ⟨n, hn⟩ : ∃ n : Nat, w / 16777216 = n ∧ n < 256 := ⟨(w / 16777216).toNat, by unfold Ma.U at hU; omega, by unfold Ma.U at hU; omega⟩
  obtain ⟨a, ha⟩ : ∃ a : Nat, w / 1048576 % 16 = a := ⟨(w / 1048576 % 16).toNat, by omega⟩
  obtain ⟨b, hb⟩ : ∃ b : Nat, w / 65536 % 16 = b := ⟨(w / 65536 % 16).toNat, by omega⟩
  obtain ⟨c, hc⟩ : ∃ c : Nat, w % 65536 = c := ⟨(w % 65536).toNat, by omega⟩
  have hins : insW w = ⟨n, a, b, c⟩ := by unfold insW; rw [hn.1, ha, hb, hc]
  have h132 := m132 n a b c hn.2
  have d1 : w.fdiv (2 ^ min 24 IntKind.u32.bits) = n := by rw [show (2 : Int) ^ min 24 IntKind.u32.bits = 16777216 from rfl, Int.fdiv_eq_ediv_of_nonneg _ (by decide)]; exact hn.1
  have d2 : w.fdiv (2 ^ min 20 IntKind.u32.bits) = w / 1048576 := by rw [show (2 : Int) ^ min 20 IntKind.u32.bits = 1048576 from rfl]; exact Int.fdiv_eq_ediv_of_nonneg _ (by decide)
  have d3 : w.fdiv (2 ^ min 16 IntKind.u32.bits) = w / 65536 := by rw [show (2 : Int) ^ min 16 IntKind.u32.bits = 65536 from rfl]; exact Int.fdiv_eq_ediv_of_nonneg _ (by decide)
  have u2 : Ma.U (w / 1048576) := by unfold Ma.U at *; omega
  have u3 : Ma.U (w / 65536) := by unfold Ma.U at *; omega
  have w2 : IntKind.u32.wrap (((w / 1048576 % 2 ^ IntKind.u32.bits).toNat &&& 15 % 2 ^ IntKind.u32.bits : Nat) : Int) = a := by have h := (U_and u2).1; rw [and_form, ha] at h; exact h
  have w3 : IntKind.u32.wrap (((w / 65536 % 2 ^ IntKind.u32.bits).toNat &&& 15 % 2 ^ IntKind.u32.bits : Nat) : Int) = b := by have h := (U_and u3).1; rw [and_form, hb] at h; exact h
  have w4 : IntKind.u32.wrap (((w % 2 ^ IntKind.u32.bits).toNat &&& 65535 % 2 ^ IntKind.u32.bits : Nat) : Int) = c := by have h := (U_and hU).2; rw [and_form, hc] at h; exact h
  have i1 : IntKind.i64.wrap (n : Int) = n := wrap64 (by omega) (by omega)
  have i2 : IntKind.i64.wrap (a : Int) = a := wrap64 (by omega) (by omega)
  have i3 : IntKind.i64.wrap (b : Int) = b := wrap64 (by omega) (by omega)
  have i4 : IntKind.i64.wrap (c : Int) = c := wrap64 (by omega) (by omega)
  unfold decP
  rw [hins]
  simp only
  clear hins hU
  generalize rightI ⟨n, a, b, c⟩ = r at *
  cases r
  all_goals exact step0
theorem m402_4 (x y : Int) : (lim Tryz.prog E00 X00).dat 402 [iv 4, uv x, uv y] = some [uv (IntKind.u32.wrap (x + y)), iv 0] := lim_dat.2 ⟨100, by kernel_rfl⟩
theorem m402_5 (x y : Int) : (lim Tryz.prog E00 X00).dat 402 [iv 5, uv x, uv y] = some [uv (IntKind.u32.wrap (x - y)), iv 0] := lim_dat.2 ⟨100, by kernel_rfl⟩
theorem m402_6 (x y : Int) : (lim Tryz.prog E00 X00).dat 402 [iv 6, uv x, uv y] = some [uv (IntKind.u32.wrap (x * y)), iv 0] := lim_dat.2 ⟨100, by kernel_rfl⟩
theorem m402_9 (x y : Int) : (lim Tryz.prog E00 X00).dat 402 [iv 9, uv x, uv y] = some [uv (IntKind.u32.wrap (andW x y)), iv 0] := lim_dat.2 ⟨100, by kernel_rfl⟩
theorem m402_10 (x y : Int) : (lim Tryz.prog E00 X00).dat 402 [iv 10, uv x, uv y] = some [uv (IntKind.u32.wrap (orW x y)), iv 0] := lim_dat.2 ⟨100, by kernel_rfl⟩
theorem m402_11 (x y : Int) : (lim Tryz.prog E00 X00).dat 402 [iv 11, uv x, uv y] = some [uv (IntKind.u32.wrap (xorW x y)), iv 0] := lim_dat.2 ⟨100, by kernel_rfl⟩
set_option maxHeartbeats 1000000 in
set_option maxHeartbeats 1000000 in
theorem m414_7 (x y : Int)  : (lim Tryz.prog E00 X00).dat 414 [iv 7, uv x, uv y] = some [uv (if y = 0 then 0 else IntKind.u32.wrap (x.tdiv y)), iv (if y = 0 then 14 else 0)] := by
  refine fnW Tryz.func414 rfl rfl bodyOk_414 rfl rtys_414 rfl ?_
  by_cases h : y = 0
  all_goals have hb := beq_dec y 0
  all_goals simp only [h, if_true, if_false, decide_true, decide_false] at hb ⊢
  all_goals exact step1
set_option maxHeartbeats 1000000 in
set_option maxHeartbeats 1000000 in
theorem m414_8 (x y : Int)  : (lim Tryz.prog E00 X00).dat 414 [iv 8, uv x, uv y] = some [uv (if y = 0 then 0 else x.tmod y), iv (if y = 0 then 14 else 0)] := by
  refine fnW Tryz.func414 rfl rfl bodyOk_414 rfl rtys_414 rfl ?_
  by_cases h : y = 0
  all_goals have hb := beq_dec y 0
  all_goals simp only [h, if_true, if_false, decide_true, decide_false] at hb ⊢
  all_goals exact step1
set_option maxHeartbeats 1000000 in
theorem m415_12 (x y : Int) (hy : Ma.U y)  : (lim Tryz.prog E00 X00).dat 415 [iv 12, uv x, uv y] = some [uv (if 31 < y then 0 else IntKind.u32.wrap (x * 2 ^ (min y.toNat 32)))] := by
  refine fnW Tryz.func415 rfl rfl bodyOk_415 rfl rtys_415 rfl ?_
  have hn : ¬ y < 0 := by have := hy.1; omega
  by_cases h : 31 < y
  all_goals simp only [h, if_true, if_false]
  all_goals exact step0
set_option maxHeartbeats 1000000 in
theorem m415_13 (x y : Int) (hy : Ma.U y)  : (lim Tryz.prog E00 X00).dat 415 [iv 13, uv x, uv y] = some [uv (if 31 < y then 0 else x.fdiv (2 ^ (min y.toNat 32)))] := by
  refine fnW Tryz.func415 rfl rfl bodyOk_415 rfl rtys_415 rfl ?_
  have hn : ¬ y < 0 := by have := hy.1; omega
  by_cases h : 31 < y
  all_goals simp only [h, if_true, if_false]
  all_goals exact step0
set_option maxHeartbeats 1000000 in
theorem m416_14 (x y : Int)  : (lim Tryz.prog E00 X00).dat 416 [iv 14, uv x, uv y] = some [uv (if x < y then 1 else 0)] := by
  refine fnW Tryz.func416 rfl rfl bodyOk_416 rfl rtys_416 rfl ?_
  have hb := beq_dec x y
  by_cases h : x < y
  all_goals simp only [h, if_true, if_false, decide_true, decide_false] at hb ⊢
  all_goals exact step0
set_option maxHeartbeats 1000000 in
theorem m416_15 (x y : Int)  : (lim Tryz.prog E00 X00).dat 416 [iv 15, uv x, uv y] = some [uv (if x = y then 1 else 0)] := by
  refine fnW Tryz.func416 rfl rfl bodyOk_416 rfl rtys_416 rfl ?_
  have hb := beq_dec x y
  by_cases h : x = y
  all_goals simp only [h, if_true, if_false, decide_true, decide_false] at hb ⊢
  all_goals exact step0
set_option maxHeartbeats 1000000 in
theorem m402_7 (x y : Int)  : (lim Tryz.prog E00 X00).dat 402 [iv 7, uv x, uv y] = some [uv (if y = 0 then 0 else IntKind.u32.wrap (x.tdiv y)), iv (if y = 0 then 14 else 0)] := by
  refine fnW Tryz.func402 rfl rfl bodyOk_402 rfl rtys_402 rfl ?_
  have h414 := m414_7 x y
  generalize (if y = 0 then 0 else IntKind.u32.wrap (x.tdiv y)) = v1 at *
  generalize (if y = 0 then (14 : Int) else 0) = v2 at *
  exact step0
set_option maxHeartbeats 1000000 in
theorem m402_8 (x y : Int)  : (lim Tryz.prog E00 X00).dat 402 [iv 8, uv x, uv y] = some [uv (if y = 0 then 0 else x.tmod y), iv (if y = 0 then 14 else 0)] := by
  refine fnW Tryz.func402 rfl rfl bodyOk_402 rfl rtys_402 rfl ?_
  have h414 := m414_8 x y
  generalize (if y = 0 then 0 else x.tmod y) = v1 at *
  generalize (if y = 0 then (14 : Int) else 0) = v2 at *
  exact step0
set_option maxHeartbeats 1000000 in
theorem m402_12 (x y : Int) (hy : Ma.U y)  : (lim Tryz.prog E00 X00).dat 402 [iv 12, uv x, uv y] = some [uv (if 31 < y then 0 else IntKind.u32.wrap (x * 2 ^ (min y.toNat 32))), iv 0] := by
  refine fnW Tryz.func402 rfl rfl bodyOk_402 rfl rtys_402 rfl ?_
  have h41 := m415_12 x y hy
  generalize (if 31 < y then 0 else IntKind.u32.wrap (x * 2 ^ (min y.toNat 32))) = v1 at *
  exact step0
set_option maxHeartbeats 1000000 in
theorem m402_13 (x y : Int) (hy : Ma.U y)  : (lim Tryz.prog E00 X00).dat 402 [iv 13, uv x, uv y] = some [uv (if 31 < y then 0 else x.fdiv (2 ^ (min y.toNat 32))), iv 0] := by
  refine fnW Tryz.func402 rfl rfl bodyOk_402 rfl rtys_402 rfl ?_
  have h41 := m415_13 x y hy
  generalize (if 31 < y then 0 else x.fdiv (2 ^ (min y.toNat 32))) = v1 at *
  exact step0
set_option maxHeartbeats 1000000 in
theorem m402_14 (x y : Int)  : (lim Tryz.prog E00 X00).dat 402 [iv 14, uv x, uv y] = some [uv (if x < y then 1 else 0), iv 0] := by
  refine fnW Tryz.func402 rfl rfl bodyOk_402 rfl rtys_402 rfl ?_
  have h41 := m416_14 x y
  generalize (if x < y then 1 else 0) = v1 at *
  exact step0
set_option maxHeartbeats 1000000 in
theorem m402_15 (x y : Int)  : (lim Tryz.prog E00 X00).dat 402 [iv 15, uv x, uv y] = some [uv (if x = y then 1 else 0), iv 0] := by
  refine fnW Tryz.func402 rfl rfl bodyOk_402 rfl rtys_402 rfl ?_
  have h41 := m416_15 x y
  generalize (if x = y then 1 else 0) = v1 at *
  exact step0
theorem m402 (op : Nat) (x y : Int) (h4 : 4 ≤ op) (h15 : op ≤ 15) (hx : Ma.U x) (hy : Ma.U y) : (lim Tryz.prog E00 X00).dat 402 [iv op, uv x, uv y] = some [uv ((apP op x y).getD 0), iv (if (apP op x y).isSome then 0 else 14)] := by
  have x0 := hx.1
  have y0 := hy.1
  have ub : ∀ b : BitVec 32, IntKind.u32.wrap (b.toNat : Int) = b.toNat := fun b => wrap_U (U_bits b)
  obtain rfl | rfl | rfl | rfl | rfl | rfl | rfl | rfl | rfl | rfl | rfl | rfl : op = 4 ∨ op = 5 ∨ op = 6 ∨ op = 7 ∨ op = 8 ∨ op = 9 ∨ op = 10 ∨ op = 11 ∨ op = 12 ∨ op = 13 ∨ op = 14 ∨ op = 15 := by omega
  · refine (m402_4 x y).trans ?_; rw [IntKind.wrap_u32]; simp [apP]
  · refine (m402_5 x y).trans ?_; rw [IntKind.wrap_u32]; simp [apP]
  · refine (m402_6 x y).trans ?_; rw [IntKind.wrap_u32]; simp [apP]
  · refine (m402_7 x y).trans ?_
    by_cases h : y = 0
    · simp [apP, h]
    · have h1 := apP_U (op := 7) hx hy (x := x / y) (by simp [apP, h])
      rw [Int.tdiv_eq_ediv_of_nonneg x0, wrap_U h1]
      simp [apP, h]
  · refine (m402_8 x y).trans ?_
    by_cases h : y = 0
    · simp [apP, h]
    · rw [Int.tmod_eq_emod_of_nonneg x0]
      simp [apP, h]
  · refine (m402_9 x y).trans ?_; unfold andW; rw [ub]; simp [apP, andW]
  · refine (m402_10 x y).trans ?_; unfold orW; rw [ub]; simp [apP, orW]
  · refine (m402_11 x y).trans ?_; unfold xorW; rw [ub]; simp [apP, xorW]
  · refine (m402_12 x y hy).trans ?_
    by_cases h : 31 < y
    · simp [apP, h]
    · rw [Nat.min_eq_left (by omega), IntKind.wrap_u32]; simp [apP, h]
  · refine (m402_13 x y hy).trans ?_
    by_cases h : 31 < y
    · simp [apP, h]
    · rw [Nat.min_eq_left (by omega), Int.fdiv_eq_ediv_of_nonneg _ (Int.le_of_lt (Int.pow_pos (by decide)))]; simp [apP, h]
  · refine (m402_14 x y).trans ?_; simp [apP]
  · refine (m402_15 x y).trans ?_; simp [apP]
end Go.Proofs.YtaeeffddinppeaaGreatDoor
namespace Go.Proofs.YtaeeffddinppeaaGreatDoor
open Go Go.Ab Go.Ma
theorem bx_regg {code : List Int} {inp : ByteArray} {pc : Int} {rg : List Int} {M : AV} {rd steps en : Int} {o : Bool} {go no : Nat} {a : Nat} (h : rg.length = 16) (ha : a < 16) (hl : 3 + a < (bxP code inp pc rg M rd steps en o go no).length) : (bxP code inp pc rg M rd steps en o go no)[3 + a] = uv ((rg[a]?).getD 0) := by
  have h1 := bx_reg (code := code) (inp := inp) (pc := pc) (M := M) (rd := rd) (steps := steps) (en := en) (o := o) (go := go) (no := no) h ha
  rw [List.getElem?_eq_getElem hl] at h1
  rw [List.getElem?_eq_getElem (by omega)] at h1 ⊢
  simpa using h1
theorem bg_0 {code : List Int} {inp : ByteArray} {pc : Int} {rg : List Int} {M : AV} {rd steps en : Int} {o : Bool} {go no : Nat} (h : rg.length = 16) (hl : 0 < (bxP code inp pc rg M rd steps en o go no).length) : (bxP code inp pc rg M rd steps en o go no)[0] = .sl false 1 (rowW code) := by
  have h1 : (bxP code inp pc rg M rd steps en o go no)[0]? = some (.sl false 1 (rowW code)) := bx_0
  rw [List.getElem?_eq_getElem hl] at h1
  exact Option.some.inj h1
theorem bg_1 {code : List Int} {inp : ByteArray} {pc : Int} {rg : List Int} {M : AV} {rd steps en : Int} {o : Bool} {go no : Nat} (h : rg.length = 16) (hl : 1 < (bxP code inp pc rg M rd steps en o go no).length) : (bxP code inp pc rg M rd steps en o go no)[1] = .sc (.string inp) := by
  have h1 : (bxP code inp pc rg M rd steps en o go no)[1]? = some (.sc (.string inp)) := bx_1
  rw [List.getElem?_eq_getElem hl] at h1
  exact Option.some.inj h1
theorem bg_2 {code : List Int} {inp : ByteArray} {pc : Int} {rg : List Int} {M : AV} {rd steps en : Int} {o : Bool} {go no : Nat} (h : rg.length = 16) (hl : 2 < (bxP code inp pc rg M rd steps en o go no).length) : (bxP code inp pc rg M rd steps en o go no)[2] = iv pc := by
  have h1 : (bxP code inp pc rg M rd steps en o go no)[2]? = some (iv pc) := bx_2
  rw [List.getElem?_eq_getElem hl] at h1
  exact Option.some.inj h1
theorem bg_19 {code : List Int} {inp : ByteArray} {pc : Int} {rg : List Int} {M : AV} {rd steps en : Int} {o : Bool} {go no : Nat} (h : rg.length = 16) (hl : 19 < (bxP code inp pc rg M rd steps en o go no).length) : (bxP code inp pc rg M rd steps en o go no)[19] = M := by
  have h1 : (bxP code inp pc rg M rd steps en o go no)[19]? = some (M) := bx_19 h
  rw [List.getElem?_eq_getElem hl] at h1
  exact Option.some.inj h1
theorem bg_20 {code : List Int} {inp : ByteArray} {pc : Int} {rg : List Int} {M : AV} {rd steps en : Int} {o : Bool} {go no : Nat} (h : rg.length = 16) (hl : 20 < (bxP code inp pc rg M rd steps en o go no).length) : (bxP code inp pc rg M rd steps en o go no)[20] = iv rd := by
  have h1 : (bxP code inp pc rg M rd steps en o go no)[20]? = some (iv rd) := bx_20 h
  rw [List.getElem?_eq_getElem hl] at h1
  exact Option.some.inj h1
theorem bg_21 {code : List Int} {inp : ByteArray} {pc : Int} {rg : List Int} {M : AV} {rd steps en : Int} {o : Bool} {go no : Nat} (h : rg.length = 16) (hl : 21 < (bxP code inp pc rg M rd steps en o go no).length) : (bxP code inp pc rg M rd steps en o go no)[21] = .sc (.string ⟨#[]⟩) := by
  have h1 : (bxP code inp pc rg M rd steps en o go no)[21]? = some (.sc (.string ⟨#[]⟩)) := bx_21 h
  rw [List.getElem?_eq_getElem hl] at h1
  exact Option.some.inj h1
theorem bg_22 {code : List Int} {inp : ByteArray} {pc : Int} {rg : List Int} {M : AV} {rd steps en : Int} {o : Bool} {go no : Nat} (h : rg.length = 16) (hl : 22 < (bxP code inp pc rg M rd steps en o go no).length) : (bxP code inp pc rg M rd steps en o go no)[22] = iv steps := by
  have h1 : (bxP code inp pc rg M rd steps en o go no)[22]? = some (iv steps) := bx_22 h
  rw [List.getElem?_eq_getElem hl] at h1
  exact Option.some.inj h1
theorem bg_23 {code : List Int} {inp : ByteArray} {pc : Int} {rg : List Int} {M : AV} {rd steps en : Int} {o : Bool} {go no : Nat} (h : rg.length = 16) (hl : 23 < (bxP code inp pc rg M rd steps en o go no).length) : (bxP code inp pc rg M rd steps en o go no)[23] = iv en := by
  have h1 : (bxP code inp pc rg M rd steps en o go no)[23]? = some (iv en) := bx_23 h
  rw [List.getElem?_eq_getElem hl] at h1
  exact Option.some.inj h1
theorem bg_24 {code : List Int} {inp : ByteArray} {pc : Int} {rg : List Int} {M : AV} {rd steps en : Int} {o : Bool} {go no : Nat} (h : rg.length = 16) (hl : 24 < (bxP code inp pc rg M rd steps en o go no).length) : (bxP code inp pc rg M rd steps en o go no)[24] = bv o := by
  have h1 : (bxP code inp pc rg M rd steps en o go no)[24]? = some (bv o) := bx_24 h
  rw [List.getElem?_eq_getElem hl] at h1
  exact Option.some.inj h1
theorem bg_25 {code : List Int} {inp : ByteArray} {pc : Int} {rg : List Int} {M : AV} {rd steps en : Int} {o : Bool} {go no : Nat} (h : rg.length = 16) (hl : 25 < (bxP code inp pc rg M rd steps en o go no).length) : (bxP code inp pc rg M rd steps en o go no)[25] = .own ⟨0, 13, 26⟩ go no := by
  have h1 : (bxP code inp pc rg M rd steps en o go no)[25]? = some (.own ⟨0, 13, 26⟩ go no) := bx_25 h
  rw [List.getElem?_eq_getElem hl] at h1
  exact Option.some.inj h1
attribute [-simp] Prog.bind getCs putCs
attribute [local simp ↓] run_bind
attribute [local simp ↓] runF_bind
attribute [local simp] run_getCsN runF_getCsN facetsC putCs_one run_putCsN
attribute [local simp] take1 bx_len bx_0 bx_1 bx_2 bx_19 bx_20 bx_21 bx_22 bx_23 bx_24 bx_25 bx_reg bs_2 bs_19 bs_20 bs_22 bs_23 bs_24 bs_25 bs_reg bx_regg bg_0 bg_1 bg_2 bg_19 bg_20 bg_21 bg_22 bg_23 bg_24 bg_25
theorem getV {l : List Int} {n : Nat} {x : Int} (h : l[n]? = some x) : ∀ h', l[n]'h' = x := fun h' => by
  rw [List.getElem?_eq_getElem h'] at h
  exact Option.some.inj h
theorem skol {C : Hp → Prop} {P : Nat → Hp → Hp → Prop} (h : ∀ d hp, C hp → ∃ hp', P d hp hp') : ∃ F : Nat → Hp → Hp, ∀ d hp, C hp → P d hp (F d hp) := by
  classical
  refine ⟨fun d hp => if c : C hp then Classical.choose (h d hp c) else hp, fun d hp c => ?_⟩
  simp only [dif_pos c]
  exact Classical.choose_spec (h d hp c)
set_option maxHeartbeats 4000000 in
theorem m399_18 {code : List Int} {inp : ByteArray} {pc : Int} {rg : List Int} {M : AV} {rd steps en : Int} {o : Bool} {go no : Nat} (na nb nc : Nat) (hpc0 : 0 ≤ pc) (hpc1 : pc ≤ 4294967296)  (hrl : rg.length = 16) (d : Nat) (hp1 : Hp) (hx : hp1 ⟨0, 13, 0⟩ = .box 1 (bxP code inp pc rg M rd steps en o go no) false)  :
    ∃ hp', (lim Tryz.prog E00 X00).hpc 3 d 399 [.ptr ⟨0, 13, 0⟩ 1 0, .agg [iv 18, iv na, iv nb, iv nc]] hp1 = some (.tup [], hp') ∧ hp' ⟨0, 13, 0⟩ = .box 1 (bxP code inp (nc : Int) rg M rd steps en o go no) false ∧ ∀ y : Nm, y.d = 0 → y ≠ ⟨0, 13, 0⟩ → hp' y = hp1 y := by
  refine unkey ?_
  refine lim_hpcW Tryz.func399 rfl rfl bodyOk_399 rfl rfl ?_
  have hNA := fun (k : Nat) (h : k < 16) => (⟨by omega, by omega⟩ : 3 + k ≤ 25 ∧ 3 + k < 26)
  try have hA := hNA _ ha
  try have hB := hNA _ hb16
  try have hC := hNA _ hc16
  clear hNA
  try have hga' := getV hga
  try have hgb' := getV hgb
  try have hgc' := getV hgc
  have hw : IntKind.i64.wrap (pc + 1) = pc + 1 := wrap64 (by omega) (by omega)
  exact step2
set_option maxHeartbeats 4000000 in
theorem m399_19 {code : List Int} {inp : ByteArray} {pc : Int} {rg : List Int} {M : AV} {rd steps en : Int} {o : Bool} {go no : Nat} (na nb nc : Nat) (xa : Int) (hpc0 : 0 ≤ pc) (hpc1 : pc ≤ 4294967296)  (hrl : rg.length = 16) (d : Nat) (hp1 : Hp) (hx : hp1 ⟨0, 13, 0⟩ = .box 1 (bxP code inp pc rg M rd steps en o go no) false) (ha : na < 16) (hga : rg[na]? = some xa) :
    ∃ hp', (lim Tryz.prog E00 X00).hpc 3 d 399 [.ptr ⟨0, 13, 0⟩ 1 0, .agg [iv 19, iv na, iv nb, iv nc]] hp1 = some (.tup [], hp') ∧ hp' ⟨0, 13, 0⟩ = .box 1 (bxP code inp (if xa = 0 then (nc : Int) else pc + 1) rg M rd steps en o go no) false ∧ ∀ y : Nm, y.d = 0 → y ≠ ⟨0, 13, 0⟩ → hp' y = hp1 y := by
  refine unkey ?_
  refine lim_hpcW Tryz.func399 rfl rfl bodyOk_399 rfl rfl ?_
  have hNA := fun (k : Nat) (h : k < 16) => (⟨by omega, by omega⟩ : 3 + k ≤ 25 ∧ 3 + k < 26)
  try have hA := hNA _ ha
  try have hB := hNA _ hb16
  try have hC := hNA _ hc16
  clear hNA
  try have hga' := getV hga
  try have hgb' := getV hgb
  try have hgc' := getV hgc
  have hw : IntKind.i64.wrap (pc + 1) = pc + 1 := wrap64 (by omega) (by omega)
  have hb := beq_dec xa 0
  by_cases h0 : xa = 0
  all_goals simp only [h0, if_true, if_false, decide_true, decide_false] at hb ⊢
  all_goals (try subst h0)
  all_goals exact step2
set_option maxHeartbeats 4000000 in
theorem m399_20 {code : List Int} {inp : ByteArray} {pc : Int} {rg : List Int} {M : AV} {rd steps en : Int} {o : Bool} {go no : Nat} (na nb nc : Nat) (xa : Int) (hpc0 : 0 ≤ pc) (hpc1 : pc ≤ 4294967296)  (hrl : rg.length = 16) (d : Nat) (hp1 : Hp) (hx : hp1 ⟨0, 13, 0⟩ = .box 1 (bxP code inp pc rg M rd steps en o go no) false) (ha : na < 16) (hga : rg[na]? = some xa) :
    ∃ hp', (lim Tryz.prog E00 X00).hpc 3 d 399 [.ptr ⟨0, 13, 0⟩ 1 0, .agg [iv 20, iv na, iv nb, iv nc]] hp1 = some (.tup [], hp') ∧ hp' ⟨0, 13, 0⟩ = .box 1 (bxP code inp (if xa ≠ 0 then (nc : Int) else pc + 1) rg M rd steps en o go no) false ∧ ∀ y : Nm, y.d = 0 → y ≠ ⟨0, 13, 0⟩ → hp' y = hp1 y := by
  refine unkey ?_
  refine lim_hpcW Tryz.func399 rfl rfl bodyOk_399 rfl rfl ?_
  have hNA := fun (k : Nat) (h : k < 16) => (⟨by omega, by omega⟩ : 3 + k ≤ 25 ∧ 3 + k < 26)
  try have hA := hNA _ ha
  try have hB := hNA _ hb16
  try have hC := hNA _ hc16
  clear hNA
  try have hga' := getV hga
  try have hgb' := getV hgb
  try have hgc' := getV hgc
  have hw : IntKind.i64.wrap (pc + 1) = pc + 1 := wrap64 (by omega) (by omega)
  have hb := bne_dec xa 0
  by_cases h0 : xa = 0
  all_goals simp only [ne_eq, h0, not_true, not_false_iff, if_true, if_false, decide_true, decide_false] at hb ⊢
  all_goals (try subst h0)
  all_goals exact step2
set_option maxHeartbeats 4000000 in
theorem m399_21 {code : List Int} {inp : ByteArray} {pc : Int} {rg : List Int} {M : AV} {rd steps en : Int} {o : Bool} {go no : Nat} (na nb nc : Nat) (hpc0 : 0 ≤ pc) (hpc1 : pc ≤ 4294967296)  (hrl : rg.length = 16) (d : Nat) (hp1 : Hp) (hx : hp1 ⟨0, 13, 0⟩ = .box 1 (bxP code inp pc rg M rd steps en o go no) false) (ha : na < 16) :
    ∃ hp', (lim Tryz.prog E00 X00).hpc 3 d 399 [.ptr ⟨0, 13, 0⟩ 1 0, .agg [iv 21, iv na, iv nb, iv nc]] hp1 = some (.tup [], hp') ∧ hp' ⟨0, 13, 0⟩ = .box 1 (bxP code inp (nc : Int) (rg.set na ((pc + 1) % 4294967296)) M rd steps en o go no) false ∧ ∀ y : Nm, y.d = 0 → y ≠ ⟨0, 13, 0⟩ → hp' y = hp1 y := by
  refine unkey ?_
  refine lim_hpcW Tryz.func399 rfl rfl bodyOk_399 rfl rfl ?_
  have hNA := fun (k : Nat) (h : k < 16) => (⟨by omega, by omega⟩ : 3 + k ≤ 25 ∧ 3 + k < 26)
  try have hA := hNA _ ha
  try have hB := hNA _ hb16
  try have hC := hNA _ hc16
  clear hNA
  try have hga' := getV hga
  try have hgb' := getV hgb
  try have hgc' := getV hgc
  have hw : IntKind.i64.wrap (pc + 1) = pc + 1 := wrap64 (by omega) (by omega)
  have hw2 : IntKind.u32.wrap (pc + 1) = (pc + 1) % 4294967296 := IntKind.wrap_u32 _
  exact step2
set_option maxHeartbeats 4000000 in
theorem m399_22 {code : List Int} {inp : ByteArray} {pc : Int} {rg : List Int} {M : AV} {rd steps en : Int} {o : Bool} {go no : Nat} (na nb nc : Nat) (xa : Int) (hxa : Ma.U xa) (hpc0 : 0 ≤ pc) (hpc1 : pc ≤ 4294967296)  (hrl : rg.length = 16) (d : Nat) (hp1 : Hp) (hx : hp1 ⟨0, 13, 0⟩ = .box 1 (bxP code inp pc rg M rd steps en o go no) false) (ha : na < 16) (hga : rg[na]? = some xa) :
    ∃ hp', (lim Tryz.prog E00 X00).hpc 3 d 399 [.ptr ⟨0, 13, 0⟩ 1 0, .agg [iv 22, iv na, iv nb, iv nc]] hp1 = some (.tup [], hp') ∧ hp' ⟨0, 13, 0⟩ = .box 1 (bxP code inp xa rg M rd steps en o go no) false ∧ ∀ y : Nm, y.d = 0 → y ≠ ⟨0, 13, 0⟩ → hp' y = hp1 y := by
  refine unkey ?_
  refine lim_hpcW Tryz.func399 rfl rfl bodyOk_399 rfl rfl ?_
  have hNA := fun (k : Nat) (h : k < 16) => (⟨by omega, by omega⟩ : 3 + k ≤ 25 ∧ 3 + k < 26)
  try have hA := hNA _ ha
  try have hB := hNA _ hb16
  try have hC := hNA _ hc16
  clear hNA
  try have hga' := getV hga
  try have hgb' := getV hgb
  try have hgc' := getV hgc
  have hw : IntKind.i64.wrap (pc + 1) = pc + 1 := wrap64 (by omega) (by omega)
  have hw2 : IntKind.i64.wrap xa = xa := by unfold Ma.U at hxa; exact wrap64 (by omega) (by omega)
  clear hxa
  exact step2
end Go.Proofs.YtaeeffddinppeaaGreatDoor
namespace Go.Proofs.YtaeeffddinppeaaGreatDoor
open Go Go.Ab Go.Ma
attribute [-simp] Prog.bind getCs putCs
attribute [local simp ↓] run_bind
attribute [local simp ↓] runF_bind
attribute [local simp] run_getCsN runF_getCsN facetsC putCs_one run_putCsN
attribute [local simp] take1 bx_len bx_0 bx_1 bx_2 bx_19 bx_20 bx_21 bx_22 bx_23 bx_24 bx_25 bx_reg bs_2 bs_19 bs_20 bs_22 bs_23 bs_24 bs_25 bs_reg bx_regg bg_0 bg_1 bg_2 bg_19 bg_20 bg_21 bg_22 bg_23 bg_24 bg_25
theorem rowW_set (l : List Int) (i : Nat) (x : Int) : (rowW l).set i [uv x] = rowW (l.set i x) := by simp [List.map_set]
theorem rowW_len (l : List Int) : (rowW l).length = l.length := List.length_map ..
set_option maxHeartbeats 1000000 in
theorem m413 (x0 : Int) (l : List Int) (hl : l.length + 1 ≤ 1048576)  : (lim Tryz.prog E00 X00).dat 413 [.sl false 1 ([uv x0] :: rowW l)] = some [.vec 1 ([uv x0] :: rowW l)] := by
  refine fnW Tryz.func413 rfl rfl bodyOk_413 rfl rtys_413 rfl ?_
  have n1 : (l.length + 1) * 4 ≤ 140737488355328 := by omega
  have n2 : l.length ≤ 9223372036854775806 := by omega
  have n3 : l.length + 1 ≤ 9223372036854775807 := by omega
  exact step0
theorem m413' (l : List Int) (h0 : 0 < l.length) (hl : l.length ≤ 1048576) : (lim Tryz.prog E00 X00).dat 413 [.sl false 1 (rowW l)] = some [.vec 1 (rowW l)] := by
  match l, h0 with
  | x :: l, _ => exact m413 x l (by simpa using hl)
set_option maxHeartbeats 4000000 in
theorem m400_27i {code : List Int} {inp : ByteArray} {pc : Int} {rg : List Int} {M : AV} {rd steps en : Int} {o : Bool} {go no : Nat} (na nb nc at_ : Nat) (xb : Int) (hnc : nc ≤ 65535) (hat : (xb + nc) % 4294967296 = at_) (x : Int) (hcx : code[at_]? = some x)  (hrl : rg.length = 16) (d : Nat) (hp1 : Hp) (hx : hp1 ⟨0, 13, 0⟩ = .box 1 (bxP code inp pc rg M rd steps en o go no) false) (ha : na < 16) (hb16 : nb < 16) (hgb : rg[nb]? = some xb) :
    ∃ hp', (lim Tryz.prog E00 X00).hpc 3 d 400 [.ptr ⟨0, 13, 0⟩ 1 0, .agg [iv 27, iv na, iv nb, iv nc]] hp1 = some (bv true, hp') ∧ hp' ⟨0, 13, 0⟩ = .box 1 (bxP code inp pc (rg.set na x) M rd steps en o go no) false ∧ ∀ y : Nm, y.d = 0 → y ≠ ⟨0, 13, 0⟩ → hp' y = hp1 y := by
  refine unkey ?_
  refine lim_hpcW Tryz.func400 rfl rfl bodyOk_400 rfl rfl ?_
  have hNA := fun (k : Nat) (h : k < 16) => (⟨by omega, by omega⟩ : 3 + k ≤ 25 ∧ 3 + k < 26)
  try have hA := hNA _ ha
  try have hB := hNA _ hb16
  try have hC := hNA _ hc16
  clear hNA
  try have hga' := getV hga
  try have hgb' := getV hgb
  try have hgc' := getV hgc
  have w0 : IntKind.u32.wrap (nc : Int) = nc := by rw [IntKind.wrap_u32]; omega
  have w1 : IntKind.u32.wrap (xb + nc) = (at_ : Int) := by rw [IntKind.wrap_u32]; exact hat
  have w2 : IntKind.i64.wrap (at_ : Int) = at_ := wrap64 (by omega) (by omega)
  clear hat
  have q1 : ¬ (code.length : Int) ≤ at_ := by have := (List.getElem?_eq_some_iff.1 hcx).1; omega
  have q2 : at_ < code.length := (List.getElem?_eq_some_iff.1 hcx).1
  have q3 := getV hcx
  exact step2
set_option maxHeartbeats 4000000 in
theorem m400_27o {code : List Int} {inp : ByteArray} {pc : Int} {rg : List Int} {M : AV} {rd steps en : Int} {o : Bool} {go no : Nat} (na nb nc at_ : Nat) (xb : Int) (hnc : nc ≤ 65535) (hat : (xb + nc) % 4294967296 = at_) (hcx : code.length ≤ at_)  (hrl : rg.length = 16) (d : Nat) (hp1 : Hp) (hx : hp1 ⟨0, 13, 0⟩ = .box 1 (bxP code inp pc rg M rd steps en o go no) false) (ha : na < 16) (hb16 : nb < 16) (hgb : rg[nb]? = some xb) :
    ∃ hp', (lim Tryz.prog E00 X00).hpc 3 d 400 [.ptr ⟨0, 13, 0⟩ 1 0, .agg [iv 27, iv na, iv nb, iv nc]] hp1 = some (bv false, hp') ∧ hp' ⟨0, 13, 0⟩ = .box 1 (bxP code inp pc rg M rd steps en o go no) false ∧ ∀ y : Nm, y.d = 0 → y ≠ ⟨0, 13, 0⟩ → hp' y = hp1 y := by
  refine unkey ?_
  refine lim_hpcW Tryz.func400 rfl rfl bodyOk_400 rfl rfl ?_
  have hNA := fun (k : Nat) (h : k < 16) => (⟨by omega, by omega⟩ : 3 + k ≤ 25 ∧ 3 + k < 26)
  try have hA := hNA _ ha
  try have hB := hNA _ hb16
  try have hC := hNA _ hc16
  clear hNA
  try have hga' := getV hga
  try have hgb' := getV hgb
  try have hgc' := getV hgc
  have w0 : IntKind.u32.wrap (nc : Int) = nc := by rw [IntKind.wrap_u32]; omega
  have w1 : IntKind.u32.wrap (xb + nc) = (at_ : Int) := by rw [IntKind.wrap_u32]; exact hat
  have w2 : IntKind.i64.wrap (at_ : Int) = at_ := wrap64 (by omega) (by omega)
  clear hat
  have q1 : (code.length : Int) ≤ at_ := by omega
  exact step2
set_option maxHeartbeats 4000000 in
theorem m400_16is {code : List Int} {inp : ByteArray} {pc : Int} {rg : List Int} {M : AV} {rd steps en : Int} {o : Bool} {go no : Nat} (na nb nc at_ : Nat) (xb : Int) (hnc : nc ≤ 65535) (hat : (xb + nc) % 4294967296 = at_) (mem : List Int) (gm : Nat) (hM : M = .sl false 1 (rowW mem)) (x : Int) (hcx : mem[at_]? = some x)  (hrl : rg.length = 16) (d : Nat) (hp1 : Hp) (hx : hp1 ⟨0, 13, 0⟩ = .box 1 (bxP code inp pc rg M rd steps en o go no) false) (ha : na < 16) (hb16 : nb < 16) (hgb : rg[nb]? = some xb)  :
    ∃ hp', (lim Tryz.prog E00 X00).hpc 3 d 400 [.ptr ⟨0, 13, 0⟩ 1 0, .agg [iv 16, iv na, iv nb, iv nc]] hp1 = some (bv true, hp') ∧ hp' ⟨0, 13, 0⟩ = .box 1 (bxP code inp pc (rg.set na x) M rd steps en o go no) false ∧ ∀ y : Nm, y.d = 0 → y ≠ ⟨0, 13, 0⟩ → hp' y = hp1 y := by
  refine unkey ?_
  refine lim_hpcW Tryz.func400 rfl rfl bodyOk_400 rfl rfl ?_
  have hNA := fun (k : Nat) (h : k < 16) => (⟨by omega, by omega⟩ : 3 + k ≤ 25 ∧ 3 + k < 26)
  try have hA := hNA _ ha
  try have hB := hNA _ hb16
  try have hC := hNA _ hc16
  clear hNA
  try have hga' := getV hga
  try have hgb' := getV hgb
  try have hgc' := getV hgc
  subst hM
  have hml := rowW_len mem
  have w0 : IntKind.u32.wrap (nc : Int) = nc := by rw [IntKind.wrap_u32]; omega
  have w1 : IntKind.u32.wrap (xb + nc) = (at_ : Int) := by rw [IntKind.wrap_u32]; exact hat
  have w2 : IntKind.i64.wrap (at_ : Int) = at_ := wrap64 (by omega) (by omega)
  clear hat
  have q1 : ¬ (mem.length : Int) ≤ at_ := by have := (List.getElem?_eq_some_iff.1 hcx).1; omega
  have q2 : at_ < mem.length := (List.getElem?_eq_some_iff.1 hcx).1
  have q3 := getV hcx
  exact step2
set_option maxHeartbeats 4000000 in
theorem m400_16os {code : List Int} {inp : ByteArray} {pc : Int} {rg : List Int} {M : AV} {rd steps en : Int} {o : Bool} {go no : Nat} (na nb nc at_ : Nat) (xb : Int) (hnc : nc ≤ 65535) (hat : (xb + nc) % 4294967296 = at_) (mem : List Int) (gm : Nat) (hM : M = .sl false 1 (rowW mem)) (hcx : mem.length ≤ at_)  (hrl : rg.length = 16) (d : Nat) (hp1 : Hp) (hx : hp1 ⟨0, 13, 0⟩ = .box 1 (bxP code inp pc rg M rd steps en o go no) false) (ha : na < 16) (hb16 : nb < 16) (hgb : rg[nb]? = some xb)  :
    ∃ hp', (lim Tryz.prog E00 X00).hpc 3 d 400 [.ptr ⟨0, 13, 0⟩ 1 0, .agg [iv 16, iv na, iv nb, iv nc]] hp1 = some (bv false, hp') ∧ hp' ⟨0, 13, 0⟩ = .box 1 (bxP code inp pc rg M rd steps en o go no) false ∧ ∀ y : Nm, y.d = 0 → y ≠ ⟨0, 13, 0⟩ → hp' y = hp1 y := by
  refine unkey ?_
  refine lim_hpcW Tryz.func400 rfl rfl bodyOk_400 rfl rfl ?_
  have hNA := fun (k : Nat) (h : k < 16) => (⟨by omega, by omega⟩ : 3 + k ≤ 25 ∧ 3 + k < 26)
  try have hA := hNA _ ha
  try have hB := hNA _ hb16
  try have hC := hNA _ hc16
  clear hNA
  try have hga' := getV hga
  try have hgb' := getV hgb
  try have hgc' := getV hgc
  subst hM
  have hml := rowW_len mem
  have w0 : IntKind.u32.wrap (nc : Int) = nc := by rw [IntKind.wrap_u32]; omega
  have w1 : IntKind.u32.wrap (xb + nc) = (at_ : Int) := by rw [IntKind.wrap_u32]; exact hat
  have w2 : IntKind.i64.wrap (at_ : Int) = at_ := wrap64 (by omega) (by omega)
  clear hat
  have q1 : (mem.length : Int) ≤ at_ := by omega
  exact step2
set_option maxHeartbeats 4000000 in
theorem m400_17os {code : List Int} {inp : ByteArray} {pc : Int} {rg : List Int} {M : AV} {rd steps en : Int} {o : Bool} {go no : Nat} (na nb nc at_ : Nat) (xb : Int) (hnc : nc ≤ 65535) (hat : (xb + nc) % 4294967296 = at_) (mem : List Int) (gm : Nat) (hM : M = .sl false 1 (rowW mem)) (hcx : mem.length ≤ at_)  (hrl : rg.length = 16) (d : Nat) (hp1 : Hp) (hx : hp1 ⟨0, 13, 0⟩ = .box 1 (bxP code inp pc rg M rd steps en o go no) false) (ha : na < 16) (hb16 : nb < 16) (hgb : rg[nb]? = some xb)  :
    ∃ hp', (lim Tryz.prog E00 X00).hpc 3 d 400 [.ptr ⟨0, 13, 0⟩ 1 0, .agg [iv 17, iv na, iv nb, iv nc]] hp1 = some (bv false, hp') ∧ hp' ⟨0, 13, 0⟩ = .box 1 (bxP code inp pc rg M rd steps en o go no) false ∧ ∀ y : Nm, y.d = 0 → y ≠ ⟨0, 13, 0⟩ → hp' y = hp1 y := by
  refine unkey ?_
  refine lim_hpcW Tryz.func400 rfl rfl bodyOk_400 rfl rfl ?_
  have hNA := fun (k : Nat) (h : k < 16) => (⟨by omega, by omega⟩ : 3 + k ≤ 25 ∧ 3 + k < 26)
  try have hA := hNA _ ha
  try have hB := hNA _ hb16
  try have hC := hNA _ hc16
  clear hNA
  try have hga' := getV hga
  try have hgb' := getV hgb
  try have hgc' := getV hgc
  subst hM
  have hml := rowW_len mem
  have w0 : IntKind.u32.wrap (nc : Int) = nc := by rw [IntKind.wrap_u32]; omega
  have w1 : IntKind.u32.wrap (xb + nc) = (at_ : Int) := by rw [IntKind.wrap_u32]; exact hat
  have w2 : IntKind.i64.wrap (at_ : Int) = at_ := wrap64 (by omega) (by omega)
  clear hat
  have q1 : (mem.length : Int) ≤ at_ := by omega
  exact step2
set_option maxHeartbeats 4000000 in
theorem m400_16iw {code : List Int} {inp : ByteArray} {pc : Int} {rg : List Int} {M : AV} {rd steps en : Int} {o : Bool} {go no : Nat} (na nb nc at_ : Nat) (xb : Int) (hnc : nc ≤ 65535) (hat : (xb + nc) % 4294967296 = at_) (mem : List Int) (gm : Nat) (hM : M = .own ⟨0, 13, 20⟩ gm mem.length) (x : Int) (hcx : mem[at_]? = some x)  (hrl : rg.length = 16) (d : Nat) (hp1 : Hp) (hx : hp1 ⟨0, 13, 0⟩ = .box 1 (bxP code inp pc rg M rd steps en o go no) false) (ha : na < 16) (hb16 : nb < 16) (hgb : rg[nb]? = some xb) (hm : hp1 ⟨0, 13, 20⟩ = .arr gm 1 32 (rowW mem) false) :
    ∃ hp', (lim Tryz.prog E00 X00).hpc 3 d 400 [.ptr ⟨0, 13, 0⟩ 1 0, .agg [iv 16, iv na, iv nb, iv nc]] hp1 = some (bv true, hp') ∧ hp' ⟨0, 13, 0⟩ = .box 1 (bxP code inp pc (rg.set na x) M rd steps en o go no) false ∧ ∀ y : Nm, y.d = 0 → y ≠ ⟨0, 13, 0⟩ → hp' y = hp1 y := by
  refine unkey ?_
  refine lim_hpcW Tryz.func400 rfl rfl bodyOk_400 rfl rfl ?_
  have hNA := fun (k : Nat) (h : k < 16) => (⟨by omega, by omega⟩ : 3 + k ≤ 25 ∧ 3 + k < 26)
  try have hA := hNA _ ha
  try have hB := hNA _ hb16
  try have hC := hNA _ hc16
  clear hNA
  try have hga' := getV hga
  try have hgb' := getV hgb
  try have hgc' := getV hgc
  subst hM
  have hml := rowW_len mem
  have htk : (rowW mem).take mem.length = rowW mem := List.take_of_length_le (by simp)
  have w0 : IntKind.u32.wrap (nc : Int) = nc := by rw [IntKind.wrap_u32]; omega
  have w1 : IntKind.u32.wrap (xb + nc) = (at_ : Int) := by rw [IntKind.wrap_u32]; exact hat
  have w2 : IntKind.i64.wrap (at_ : Int) = at_ := wrap64 (by omega) (by omega)
  clear hat
  have q1 : ¬ (mem.length : Int) ≤ at_ := by have := (List.getElem?_eq_some_iff.1 hcx).1; omega
  have q2 : at_ < mem.length := (List.getElem?_eq_some_iff.1 hcx).1
  have q3 := getV hcx
  exact step2
set_option maxHeartbeats 4000000 in
theorem m400_16ow {code : List Int} {inp : ByteArray} {pc : Int} {rg : List Int} {M : AV} {rd steps en : Int} {o : Bool} {go no : Nat} (na nb nc at_ : Nat) (xb : Int) (hnc : nc ≤ 65535) (hat : (xb + nc) % 4294967296 = at_) (mem : List Int) (gm : Nat) (hM : M = .own ⟨0, 13, 20⟩ gm mem.length) (hcx : mem.length ≤ at_)  (hrl : rg.length = 16) (d : Nat) (hp1 : Hp) (hx : hp1 ⟨0, 13, 0⟩ = .box 1 (bxP code inp pc rg M rd steps en o go no) false) (ha : na < 16) (hb16 : nb < 16) (hgb : rg[nb]? = some xb) (hm : hp1 ⟨0, 13, 20⟩ = .arr gm 1 32 (rowW mem) false) :
    ∃ hp', (lim Tryz.prog E00 X00).hpc 3 d 400 [.ptr ⟨0, 13, 0⟩ 1 0, .agg [iv 16, iv na, iv nb, iv nc]] hp1 = some (bv false, hp') ∧ hp' ⟨0, 13, 0⟩ = .box 1 (bxP code inp pc rg M rd steps en o go no) false ∧ ∀ y : Nm, y.d = 0 → y ≠ ⟨0, 13, 0⟩ → hp' y = hp1 y := by
  refine unkey ?_
  refine lim_hpcW Tryz.func400 rfl rfl bodyOk_400 rfl rfl ?_
  have hNA := fun (k : Nat) (h : k < 16) => (⟨by omega, by omega⟩ : 3 + k ≤ 25 ∧ 3 + k < 26)
  try have hA := hNA _ ha
  try have hB := hNA _ hb16
  try have hC := hNA _ hc16
  clear hNA
  try have hga' := getV hga
  try have hgb' := getV hgb
  try have hgc' := getV hgc
  subst hM
  have hml := rowW_len mem
  have htk : (rowW mem).take mem.length = rowW mem := List.take_of_length_le (by simp)
  have w0 : IntKind.u32.wrap (nc : Int) = nc := by rw [IntKind.wrap_u32]; omega
  have w1 : IntKind.u32.wrap (xb + nc) = (at_ : Int) := by rw [IntKind.wrap_u32]; exact hat
  have w2 : IntKind.i64.wrap (at_ : Int) = at_ := wrap64 (by omega) (by omega)
  clear hat
  have q1 : (mem.length : Int) ≤ at_ := by omega
  exact step2
set_option maxHeartbeats 4000000 in
theorem m400_17ow {code : List Int} {inp : ByteArray} {pc : Int} {rg : List Int} {M : AV} {rd steps en : Int} {o : Bool} {go no : Nat} (na nb nc at_ : Nat) (xb : Int) (hnc : nc ≤ 65535) (hat : (xb + nc) % 4294967296 = at_) (mem : List Int) (gm : Nat) (hM : M = .own ⟨0, 13, 20⟩ gm mem.length) (hcx : mem.length ≤ at_)  (hrl : rg.length = 16) (d : Nat) (hp1 : Hp) (hx : hp1 ⟨0, 13, 0⟩ = .box 1 (bxP code inp pc rg M rd steps en o go no) false) (ha : na < 16) (hb16 : nb < 16) (hgb : rg[nb]? = some xb) (hm : hp1 ⟨0, 13, 20⟩ = .arr gm 1 32 (rowW mem) false) :
    ∃ hp', (lim Tryz.prog E00 X00).hpc 3 d 400 [.ptr ⟨0, 13, 0⟩ 1 0, .agg [iv 17, iv na, iv nb, iv nc]] hp1 = some (bv false, hp') ∧ hp' ⟨0, 13, 0⟩ = .box 1 (bxP code inp pc rg M rd steps en o go no) false ∧ ∀ y : Nm, y.d = 0 → y ≠ ⟨0, 13, 0⟩ → hp' y = hp1 y := by
  refine unkey ?_
  refine lim_hpcW Tryz.func400 rfl rfl bodyOk_400 rfl rfl ?_
  have hNA := fun (k : Nat) (h : k < 16) => (⟨by omega, by omega⟩ : 3 + k ≤ 25 ∧ 3 + k < 26)
  try have hA := hNA _ ha
  try have hB := hNA _ hb16
  try have hC := hNA _ hc16
  clear hNA
  try have hga' := getV hga
  try have hgb' := getV hgb
  try have hgc' := getV hgc
  subst hM
  have hml := rowW_len mem
  have htk : (rowW mem).take mem.length = rowW mem := List.take_of_length_le (by simp)
  have w0 : IntKind.u32.wrap (nc : Int) = nc := by rw [IntKind.wrap_u32]; omega
  have w1 : IntKind.u32.wrap (xb + nc) = (at_ : Int) := by rw [IntKind.wrap_u32]; exact hat
  have w2 : IntKind.i64.wrap (at_ : Int) = at_ := wrap64 (by omega) (by omega)
  clear hat
  have q1 : (mem.length : Int) ≤ at_ := by omega
  exact step2
end Go.Proofs.YtaeeffddinppeaaGreatDoor
namespace Go.Proofs.YtaeeffddinppeaaGreatDoor
open Go Go.Ab Go.Ma
attribute [-simp] Prog.bind getCs putCs
attribute [local simp ↓] run_bind
attribute [local simp ↓] runF_bind
attribute [local simp] run_getCsN runF_getCsN facetsC putCs_one run_putCsN
attribute [local simp] take1 bx_len bx_0 bx_1 bx_2 bx_19 bx_20 bx_21 bx_22 bx_23 bx_24 bx_25 bx_reg bs_2 bs_19 bs_20 bs_22 bs_23 bs_24 bs_25 bs_reg bx_regg bg_0 bg_1 bg_2 bg_19 bg_20 bg_21 bg_22 bg_23 bg_24 bg_25
set_option maxHeartbeats 4000000 in
theorem m400_17is {code : List Int} {inp : ByteArray} {pc : Int} {rg : List Int} {M : AV} {rd steps en : Int} {o : Bool} {go no : Nat} (na nb nc at_ : Nat) (xa xb : Int) (hnc : nc ≤ 65535) (hat : (xb + nc) % 4294967296 = at_) (mem : List Int) (gm : Nat) (hM : M = .sl false 1 (rowW mem)) (ho : o = false) (hml0 : mem.length ≤ 1048576) (hcx : at_ < mem.length)  (hrl : rg.length = 16) (d : Nat) (hp1 : Hp) (hx : hp1 ⟨0, 13, 0⟩ = .box 1 (bxP code inp pc rg M rd steps en o go no) false) (ha : na < 16) (hb16 : nb < 16) (hga : rg[na]? = some xa) (hgb : rg[nb]? = some xb)  :
    ∃ hp', (lim Tryz.prog E00 X00).hpc 3 d 400 [.ptr ⟨0, 13, 0⟩ 1 0, .agg [iv 17, iv na, iv nb, iv nc]] hp1 = some (bv true, hp') ∧ hp' ⟨0, 13, 0⟩ = .box 1 (bxP code inp pc rg (.own ⟨0, 13, 20⟩ ((hp1 ⟨0, 13, 20⟩).gen + 1) mem.length) rd steps en true go no) false ∧ hp' ⟨0, 13, 20⟩ = .arr ((hp1 ⟨0, 13, 20⟩).gen + 1) 1 32 (rowW (mem.set at_ xa)) false ∧ ∀ y : Nm, y.d = 0 → y ≠ ⟨0, 13, 0⟩ → y ≠ ⟨0, 13, 20⟩ → hp' y = hp1 y := by
  refine unkey ?_
  refine lim_hpcW Tryz.func400 rfl rfl bodyOk_400 rfl rfl ?_
  have hNA := fun (k : Nat) (h : k < 16) => (⟨by omega, by omega⟩ : 3 + k ≤ 25 ∧ 3 + k < 26)
  try have hA := hNA _ ha
  try have hB := hNA _ hb16
  try have hC := hNA _ hc16
  clear hNA
  try have hga' := getV hga
  try have hgb' := getV hgb
  try have hgc' := getV hgc
  subst hM ho
  have hml := rowW_len mem
  have htk : (rowW mem).take mem.length = rowW mem := List.take_of_length_le (by simp)
  have h413 := m413' mem (by omega) hml0
  have hrs := rowW_set mem at_ xa
  have w0 : IntKind.u32.wrap (nc : Int) = nc := by rw [IntKind.wrap_u32]; omega
  have w1 : IntKind.u32.wrap (xb + nc) = (at_ : Int) := by rw [IntKind.wrap_u32]; exact hat
  have w2 : IntKind.i64.wrap (at_ : Int) = at_ := wrap64 (by omega) (by omega)
  clear hat
  have q1 : ¬ (mem.length : Int) ≤ at_ := by omega
  have hrm : (rowW mem)[at_]? = some [uv mem[at_]] := by rw [List.getElem?_map, List.getElem?_eq_getElem hcx]; rfl
  have q3 : ∀ h, (rowW mem)[at_]'h = [uv mem[at_]] := fun h => by rw [List.getElem?_eq_getElem h] at hrm; exact Option.some.inj hrm
  generalize rowW mem = RW at *
  exact step3
set_option maxHeartbeats 4000000 in
theorem m400_17iw {code : List Int} {inp : ByteArray} {pc : Int} {rg : List Int} {M : AV} {rd steps en : Int} {o : Bool} {go no : Nat} (na nb nc at_ : Nat) (xa xb : Int) (hnc : nc ≤ 65535) (hat : (xb + nc) % 4294967296 = at_) (mem : List Int) (gm : Nat) (hM : M = .own ⟨0, 13, 20⟩ gm mem.length) (ho : o = true) (hml0 : mem.length ≤ 1048576) (hcx : at_ < mem.length)  (hrl : rg.length = 16) (d : Nat) (hp1 : Hp) (hx : hp1 ⟨0, 13, 0⟩ = .box 1 (bxP code inp pc rg M rd steps en o go no) false) (ha : na < 16) (hb16 : nb < 16) (hga : rg[na]? = some xa) (hgb : rg[nb]? = some xb) (hm : hp1 ⟨0, 13, 20⟩ = .arr gm 1 32 (rowW mem) false) :
    ∃ hp', (lim Tryz.prog E00 X00).hpc 3 d 400 [.ptr ⟨0, 13, 0⟩ 1 0, .agg [iv 17, iv na, iv nb, iv nc]] hp1 = some (bv true, hp') ∧ hp' ⟨0, 13, 0⟩ = .box 1 (bxP code inp pc rg (.own ⟨0, 13, 20⟩ gm mem.length) rd steps en true go no) false ∧ hp' ⟨0, 13, 20⟩ = .arr gm 1 32 (rowW (mem.set at_ xa)) false ∧ ∀ y : Nm, y.d = 0 → y ≠ ⟨0, 13, 0⟩ → y ≠ ⟨0, 13, 20⟩ → hp' y = hp1 y := by
  refine unkey ?_
  refine lim_hpcW Tryz.func400 rfl rfl bodyOk_400 rfl rfl ?_
  have hNA := fun (k : Nat) (h : k < 16) => (⟨by omega, by omega⟩ : 3 + k ≤ 25 ∧ 3 + k < 26)
  try have hA := hNA _ ha
  try have hB := hNA _ hb16
  try have hC := hNA _ hc16
  clear hNA
  try have hga' := getV hga
  try have hgb' := getV hgb
  try have hgc' := getV hgc
  subst hM ho
  have hml := rowW_len mem
  have htk : (rowW mem).take mem.length = rowW mem := List.take_of_length_le (by simp)
  have hrs := rowW_set mem at_ xa
  have w0 : IntKind.u32.wrap (nc : Int) = nc := by rw [IntKind.wrap_u32]; omega
  have w1 : IntKind.u32.wrap (xb + nc) = (at_ : Int) := by rw [IntKind.wrap_u32]; exact hat
  have w2 : IntKind.i64.wrap (at_ : Int) = at_ := wrap64 (by omega) (by omega)
  clear hat
  have q1 : ¬ (mem.length : Int) ≤ at_ := by omega
  have hrm : (rowW mem)[at_]? = some [uv mem[at_]] := by rw [List.getElem?_map, List.getElem?_eq_getElem hcx]; rfl
  have q3 : ∀ h, (rowW mem)[at_]'h = [uv mem[at_]] := fun h => by rw [List.getElem?_eq_getElem h] at hrm; exact Option.some.inj hrm
  generalize rowW mem = RW at *
  exact step3
set_option maxHeartbeats 4000000 in
theorem m401_o {code : List Int} {inp : ByteArray} {pc : Int} {rg : List Int} {M : AV} {rd steps en : Int} {o : Bool} {go no : Nat} (na rdn : Nat) (hrd : rd = rdn) (hr1 : inp.size ≤ rdn)  (hrl : rg.length = 16) (d : Nat) (hp1 : Hp) (hx : hp1 ⟨0, 13, 0⟩ = .box 1 (bxP code inp pc rg M rd steps en o go no) false) (ha : na < 16) :
    ∃ hp', (lim Tryz.prog E00 X00).hpc 3 d 401 [.ptr ⟨0, 13, 0⟩ 1 0, iv na] hp1 = some (.tup [], hp') ∧ hp' ⟨0, 13, 0⟩ = .box 1 (bxP code inp pc (rg.set na 256) M rd steps en o go no) false ∧ ∀ y : Nm, y.d = 0 → y ≠ ⟨0, 13, 0⟩ → hp' y = hp1 y := by
  refine unkey ?_
  refine lim_hpcW Tryz.func401 rfl rfl bodyOk_401 rfl rfl ?_
  have hNA := fun (k : Nat) (h : k < 16) => (⟨by omega, by omega⟩ : 3 + k ≤ 25 ∧ 3 + k < 26)
  try have hA := hNA _ ha
  try have hB := hNA _ hb16
  try have hC := hNA _ hc16
  clear hNA
  try have hga' := getV hga
  try have hgb' := getV hgb
  try have hgc' := getV hgc
  subst hrd
  have q0 : ¬ (rdn : Int) < 0 := by omega
  have q1 : (inp.size : Int) ≤ rdn := by omega
  exact step2
set_option maxHeartbeats 4000000 in
theorem m401_i {code : List Int} {inp : ByteArray} {pc : Int} {rg : List Int} {M : AV} {rd steps en : Int} {o : Bool} {go no : Nat} (na rdn : Nat) (hrd : rd = rdn) (b : UInt8) (hbb : inp.data[rdn]? = some b) (hsz : inp.size ≤ 1048576)  (hrl : rg.length = 16) (d : Nat) (hp1 : Hp) (hx : hp1 ⟨0, 13, 0⟩ = .box 1 (bxP code inp pc rg M rd steps en o go no) false) (ha : na < 16) :
    ∃ hp', (lim Tryz.prog E00 X00).hpc 3 d 401 [.ptr ⟨0, 13, 0⟩ 1 0, iv na] hp1 = some (.tup [], hp') ∧ hp' ⟨0, 13, 0⟩ = .box 1 (bxP code inp pc (rg.set na (b.toNat : Int)) M ((rdn : Int) + 1) steps en o go no) false ∧ ∀ y : Nm, y.d = 0 → y ≠ ⟨0, 13, 0⟩ → hp' y = hp1 y := by
  refine unkey ?_
  refine lim_hpcW Tryz.func401 rfl rfl bodyOk_401 rfl rfl ?_
  have hNA := fun (k : Nat) (h : k < 16) => (⟨by omega, by omega⟩ : 3 + k ≤ 25 ∧ 3 + k < 26)
  try have hA := hNA _ ha
  try have hB := hNA _ hb16
  try have hC := hNA _ hc16
  clear hNA
  try have hga' := getV hga
  try have hgb' := getV hgb
  try have hgc' := getV hgc
  subst hrd
  have hlt : rdn < inp.size := (Array.getElem?_eq_some_iff.1 hbb).1
  have q0 : ¬ (rdn : Int) < 0 := by omega
  have q1 : ¬ (inp.size : Int) ≤ rdn := by omega
  have q2 : rdn < inp.data.size := hlt
  have q3 : ∀ h, inp.data[rdn]'h = b := fun h => by rw [Array.getElem?_eq_getElem h] at hbb; exact Option.some.inj hbb
  have q4 : IntKind.u32.wrap (b.toNat : Int) = b.toNat := by have := b.toNat_lt; rw [IntKind.wrap_u32]; omega
  have q5 := wrapN (k := rdn) (by omega)
  exact step2
end Go.Proofs.YtaeeffddinppeaaGreatDoor
