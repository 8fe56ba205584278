/- Law 47: one-time signatures by the reference, walked. -/
import Derived.Test.YtdokejnokhicbaaGreatDoorP6
import Derived.Test.YtdokejnokhicbaaGreatDoorP3
namespace Go.Proofs.YtdokejnokhicbaaGreatDoor
open Go Go.Ab
set_option linter.unusedSimpArgs false
set_option linter.unusedVariables false
attribute [-simp] Prog.bind getCs putCs
attribute [local simp ↓] run_bind
attribute [local simp ↓] runF_bind
attribute [local simp] run_getCsN runF_getCsN facetsC putCs_one run_putCsN runF_putCsN facetsW facetsH
attribute [local simp ↓] evInt_xor evInt_or evInt_and64
def s8O : List AV → Option S8
  | [.sc (.int .u32 a), .sc (.int .u32 b), .sc (.int .u32 c), .sc (.int .u32 d), .sc (.int .u32 e), .sc (.int .u32 f), .sc (.int .u32 g), .sc (.int .u32 h)] => some ⟨a, b, c, d, e, f, g, h⟩
  | _ => none
theorem s8O_row {r : List AV} {d : S8} (h : s8O r = some d) : r = d.row := by
  unfold s8O at h
  split at h
  · cases h; rfl
  · cases h
def o59 : List AV → Option (List AV)
  | [.agg a, .agg b] => match s8O a, d4O b with
    | some x, some y => some [.agg (takeP x y).row]
    | _, _ => none
  | _ => none
def sgI (n : Int) : Int := if n < 10 then IntKind.u8.wrap (IntKind.i64.wrap (48 + n)) else IntKind.u8.wrap (IntKind.i64.wrap (IntKind.i64.wrap (97 + n) - 10))
def o108 : List AV → Option (List AV)
  | [.sc (.int .i64 n)] => some [.sc (.int .u8 (sgI n))]
  | _ => none
def o35 : List AV → Option (List AV)
  | [.sc (.string s)] => if s.size ≤ 1000000 then some [.agg (ofP s).row] else none
  | _ => none
theorem o59_ok {a r : List AV} (h : o59 a = some r) : (lim Tryz.prog E47 X47).dat 59 a = some r := by
  unfold o59 at h
  split at h
  · split at h
    · rename_i x y hx hy
      cases h
      rw [s8O_row hx, d4O_row hy]
      exact e45 x y
    · cases h
  · cases h
theorem f108 (n : Int) : (lim Tryz.prog E47 X47).dat 108 [iv n] = some [.sc (.int .u8 (sgI n))] := by
  refine fnW Tryz.func108 rfl rfl bodyOk_108 rfl rtys_108 rfl ?_
  unfold sgI
  by_cases h1 : n < 10
  all_goals
    repeat' (first
      | ((with_reducible first | apply Wo_u | apply Wo_n | apply ex2 | apply W_sc | apply W_c | apply Wd_u | apply Wd_n | apply ex4 | apply EndQ_ret | apply EndQ_normal); (conv => lhs; simp -implicitDefEqProofs [*]) <;> exact rfl)
      | (with_reducible first | apply Wo_nil | apply W_ss | apply W_srl | apply W_rl | apply W_sblock | apply W_block | apply W_sskip | apply W_skip | apply W_sret | apply W_ret | apply W_sexit | apply W_exit | apply thenW_n | apply thenW_r | apply thenW_e | apply inB_n | apply inB_r | apply inB_e)
      | ((with_reducible apply Wo_gt); (exact rfl); ((conv => lhs; simp -implicitDefEqProofs [*]) <;> exact rfl); (conv => lhs; simp -implicitDefEqProofs [*]) <;> exact rfl)
      | ((with_reducible apply Wo_gf); (exact rfl); ((conv => lhs; simp -implicitDefEqProofs [*]) <;> exact rfl); (exact rfl))
      | ((with_reducible apply Wo_gx); (exact rfl); ((conv => lhs; simp -implicitDefEqProofs [*]) <;> exact rfl))
      | ((with_reducible apply Wo_gsT); (exact rfl); ((conv => lhs; simp -implicitDefEqProofs [*]) <;> exact rfl))
      | ((with_reducible apply Wo_gsF); (exact rfl); ((conv => lhs; simp -implicitDefEqProofs [*]) <;> exact rfl))
      | ((with_reducible apply Wd_gsT); (exact rfl); ((conv => lhs; simp -implicitDefEqProofs [*]) <;> exact rfl))
      | ((with_reducible apply Wd_gsF); (exact rfl); ((conv => lhs; simp -implicitDefEqProofs [*]) <;> exact rfl))
      | ((with_reducible first | apply W_srdl | apply W_rdl); kernel_rfl)
      | ((with_reducible apply Wd_nil); exact rfl)
      | ((with_reducible apply inB_o); rotate_left; exact rfl)
      | (intro h h'; try simp [*, -h] at h'))
  all_goals simp [*]
theorem o108_ok {a r : List AV} (h : o108 a = some r) : (lim Tryz.prog E47 X47).dat 108 a = some r := by
  unfold o108 at h
  split at h
  · cases h
    exact f108 _
  · cases h
theorem o35_ok {a r : List AV} (h : o35 a = some r) : (lim Tryz.prog E47 X47).dat 35 a = some r := by
  unfold o35 at h
  split at h
  · split at h
    · rename_i hn
      cases h
      exact e27 _ hn
    · cases h
  · cases h
def Xa : Orc := ⟨fun f args => if f = 59 then o59 args else if f = 108 then o108 args else if f = 35 then o35 args else X47.dat f args, X47.hpc⟩
theorem Xa_le : Xa.le (lim Tryz.prog E47 X47) := by
  refine ⟨fun f a r h => ?_, fun k d f a hp r h => X47_le.hpc _ _ _ _ _ _ h⟩
  simp only [Xa] at h
  by_cases h59 : f = 59
  · subst h59; simp only [if_true] at h; exact o59_ok h
  simp only [h59, if_false] at h
  by_cases h108 : f = 108
  · subst h108; simp only [if_true] at h; exact o108_ok h
  simp only [h108, if_false] at h
  by_cases h35 : f = 35
  · subst h35; simp only [if_true] at h; exact o35_ok h
  simp only [h35, if_false] at h
  exact X47_le.dat _ _ _ h
theorem le_Xa : X47.le Xa := by
  refine ⟨fun f a r h => ?_, fun k d f a hp r h => h⟩
  have hf : f = 23 := by
    simp only [X47] at h
    split at h
    · assumption
    · cases h
  subst hf
  exact h
theorem runXa {n f : Nat} {a r : List AV} (h : (evCall Tryz.prog E47 Xa n).dat f a = some r) : (lim Tryz.prog E47 X47).dat f a = some r := run_of le_Xa Xa_le h
set_option maxRecDepth 100000 in
set_option maxHeartbeats 4000000 in
theorem f34 (a b : D4) : (lim Tryz.prog E47 X47).dat 34 [.agg a.row, .agg b.row] = some [.agg (pairP a b).row] := runXa (n := 100) (by kernel_rfl)
/-! ### the text of a digest, as the operations give it -/
def rB (w : Int) (k : Nat) : UInt8 := UInt8.ofNat (IntKind.u8.wrap (w.fdiv (2 ^ min k IntKind.u32.bits))).toNat
def rB0 (w : Int) : UInt8 := UInt8.ofNat (IntKind.u8.wrap w).toNat
def rW (w : Int) : List UInt8 := [rB w 24, rB w 16, rB w 8, rB0 w]
def rHi (b : UInt8) : UInt8 := UInt8.ofNat (sgI (IntKind.i64.wrap ((IntKind.i64.wrap b.toNat).tdiv 16))).toNat
def rLo (b : UInt8) : UInt8 := UInt8.ofNat (sgI ((IntKind.i64.wrap b.toNat).tmod 16)).toNat
def rTxt (d : D4) : ByteArray := ⟨⟨(rW d.d0 ++ (rW d.d1 ++ (rW d.d2 ++ rW d.d3))).flatMap fun b => [rHi b, rLo b]⟩⟩
set_option maxRecDepth 100000 in
set_option maxHeartbeats 4000000 in
theorem f91r (d : D4) : (lim Tryz.prog E47 X47).dat 91 [.agg d.row] = some [.sc (.string (rTxt d))] := runXa (n := 200) (by kernel_rfl)
/-! ### seeds and links, as the operations give them -/
def q1 (w : Int) : Int := IntKind.u32.wrap (w.tdiv 256)
def qb (w : Int) : UInt8 := UInt8.ofNat (IntKind.u8.wrap (w.tmod 256)).toNat
def qW (w : Int) : List UInt8 := [qb w, qb (q1 w), qb (q1 (q1 w)), qb (q1 (q1 (q1 w)))]
def seedQ (s : D4) (i : Int) : ByteArray := ⟨#[107]⟩ ++ ⟨⟨qW s.d0 ++ (qW s.d1 ++ (qW s.d2 ++ (qW s.d3 ++ qW (IntKind.u32.wrap i))))⟩⟩
def linkQ (a b : D4) : ByteArray := ⟨⟨qW a.d0 ++ (qW a.d1 ++ (qW a.d2 ++ (qW a.d3 ++ (qW b.d0 ++ (qW b.d1 ++ (qW b.d2 ++ qW b.d3))))))⟩⟩
def seedR (s : D4) (i : Int) : D4 := ofP (seedQ s i)
def linkR (a b : D4) : D4 := pairP (ofP (linkQ a b)) (ofP ⟨#[108, 105, 110, 107]⟩)
def o34z : List AV → Option (List AV)
  | [.agg a, .agg b] => match d4O a, d4O b with
    | some x, some y => some [.agg (pairP x y).row]
    | _, _ => none
  | _ => none
theorem o34z_ok {a r : List AV} (h : o34z a = some r) : (lim Tryz.prog E47 X47).dat 34 a = some r := by
  unfold o34z at h
  split at h
  · split at h
    · rename_i x y hx hy
      cases h
      rw [d4O_row hx, d4O_row hy]
      exact f34 x y
    · cases h
  · cases h
def Xb : Orc := ⟨fun f args => if f = 34 then o34z args else if f = 35 then o35 args else X47.dat f args, X47.hpc⟩
theorem Xb_le : Xb.le (lim Tryz.prog E47 X47) := by
  refine ⟨fun f a r h => ?_, fun k d f a hp r h => X47_le.hpc _ _ _ _ _ _ h⟩
  simp only [Xb] at h
  by_cases h34 : f = 34
  · subst h34; simp only [if_true] at h; exact o34z_ok h
  simp only [h34, if_false] at h
  by_cases h35 : f = 35
  · subst h35; simp only [if_true] at h; exact o35_ok h
  simp only [h35, if_false] at h
  exact X47_le.dat _ _ _ h
theorem le_Xb : X47.le Xb := by
  refine ⟨fun f a r h => ?_, fun k d f a hp r h => h⟩
  have hf : f = 23 := by
    simp only [X47] at h
    split at h
    · assumption
    · cases h
  subst hf
  exact h
theorem runXb {n f : Nat} {a r : List AV} (h : (evCall Tryz.prog E47 Xb n).dat f a = some r) : (lim Tryz.prog E47 X47).dat f a = some r := run_of le_Xb Xb_le h
set_option maxRecDepth 100000 in
set_option maxHeartbeats 4000000 in
theorem f58 (s : D4) (i : Int) : (lim Tryz.prog E47 X47).dat 58 [.agg s.row, iv i] = some [.agg (seedR s i).row] := runXb (n := 100) (by kernel_rfl)
set_option maxRecDepth 100000 in
set_option maxHeartbeats 4000000 in
theorem f17 (a b : D4) : (lim Tryz.prog E47 X47).dat 17 [.agg (a.row ++ b.row)] = some [.agg (linkR a b).row] := runXb (n := 100) (by kernel_rfl)
/-! ### plainly -/
theorem qW_eq {w : Int} (h : U w) : qW w = toBytes (b4 w) := by
  unfold U at h
  have e1 : q1 w = w / 256 := by unfold q1; rw [Int.tdiv_eq_ediv_of_nonneg h.1, IntKind.wrap_u32]; omega
  have e2 : q1 (w / 256) = w / 65536 := by unfold q1; rw [Int.tdiv_eq_ediv_of_nonneg (by omega), IntKind.wrap_u32]; omega
  have e3 : q1 (w / 65536) = w / 16777216 := by unfold q1; rw [Int.tdiv_eq_ediv_of_nonneg (by omega), IntKind.wrap_u32]; omega
  have b : ∀ v : Int, 0 ≤ v → qb v = UInt8.ofNat (v % 256).toNat := fun v hv => by
    unfold qb; rw [Int.tmod_eq_emod_of_nonneg hv, IntKind.wrap_u8, Int.emod_emod_of_dvd _ (by omega)]
  unfold qW
  rw [e1, e2, e3, b _ h.1, b _ (by omega), b _ (by omega), b _ (by omega)]
  rfl
theorem seedR_eq {s : D4} (h : s.U) (i : Int) : seedR s i = seedP s i := by
  obtain ⟨h0, h1, h2, h3⟩ := h
  unfold seedR seedP
  congr 1
  apply ba_ext
  unfold seedQ seedT
  rw [qW_eq h0, qW_eq h1, qW_eq h2, qW_eq h3, qW_eq (wrap_U32 i)]
  rfl
theorem linkR_eq {a b : D4} (ha : a.U) (hb : b.U) : linkR a b = linkP a b := by
  obtain ⟨h0, h1, h2, h3⟩ := ha
  obtain ⟨g0, g1, g2, g3⟩ := hb
  unfold linkR linkP
  congr 2
  apply ba_ext
  unfold linkQ
  rw [qW_eq h0, qW_eq h1, qW_eq h2, qW_eq h3, qW_eq g0, qW_eq g1, qW_eq g2, qW_eq g3]
  rfl
end Go.Proofs.YtdokejnokhicbaaGreatDoor

namespace Go.Proofs.YtdokejnokhicbaaGreatDoor
open Go Go.Ab
set_option linter.unusedSimpArgs false
set_option linter.unusedVariables false
attribute [-simp] Prog.bind getCs putCs
attribute [local simp ↓] run_bind
attribute [local simp ↓] runF_bind
attribute [local simp] run_getCsN runF_getCsN facetsC putCs_one run_putCsN runF_putCsN facetsW facetsH
attribute [local simp ↓] evInt_xor evInt_or evInt_and64
/-! ### the digits of a digest's text -/
def hxc (d : Nat) : UInt8 := UInt8.ofNat (if d < 10 then 48 + d else 87 + d)
theorem hxc_lo {d : Nat} (h : d < 10) : (hxc d).toNat = 48 + d := by
  unfold hxc; rw [if_pos h]; simp [UInt8.toNat_ofNat']; omega
theorem hxc_hi {d : Nat} (h : ¬ d < 10) (h2 : d ≤ 15) : (hxc d).toNat = 87 + d := by
  unfold hxc; rw [if_neg h]; simp [UInt8.toNat_ofNat']; omega
theorem sg_hxc {n : Int} {d : Nat} (h : n = d) (h2 : d ≤ 15) : UInt8.ofNat (sgI n).toNat = hxc d := by
  subst h
  unfold sgI hxc
  by_cases h : d < 10
  · rw [if_pos h, if_pos (by omega), wrap64 (by omega) (by omega), IntKind.wrap_u8]
    congr 1; omega
  · rw [if_neg h, if_neg (by omega), wrap64 (n := 97 + (d : Int)) (by omega) (by omega), wrap64 (by omega) (by omega), IntKind.wrap_u8]
    congr 1; omega
theorem byte_of (x : Int) : ((UInt8.ofNat (IntKind.u8.wrap x).toNat).toNat : Int) = x % 256 := by rw [IntKind.wrap_u8]; exact byte_toNat x
theorem hi_of (b : UInt8) (x : Int) (h : (b.toNat : Int) = x % 256) : rHi b = hxc (x / 16 % 16).toNat := by
  unfold rHi
  refine sg_hxc ?_ (by omega)
  rw [wrap64 (n := (b.toNat : Int)) (by omega) (by omega), h, Int.tdiv_eq_ediv_of_nonneg (by omega), wrap64 (by omega) (by omega)]
  omega
theorem lo_of (b : UInt8) (x : Int) (h : (b.toNat : Int) = x % 256) : rLo b = hxc (x % 16).toNat := by
  unfold rLo
  refine sg_hxc ?_ (by omega)
  rw [wrap64 (n := (b.toNat : Int)) (by omega) (by omega), h, Int.tmod_eq_emod_of_nonneg (by omega)]
  omega
theorem rB_of (w : Int) (k : Nat) (hk : k ≤ 31) : ((rB w k).toNat : Int) = w / 2 ^ k % 256 := by
  unfold rB
  rw [show min k IntKind.u32.bits = k from by show min k 32 = k; omega, Int.fdiv_eq_ediv_of_nonneg _ (Int.pow_nonneg (by omega))]
  exact byte_of _
theorem rW_eq (w : Int) : ((rW w).flatMap fun b => [rHi b, rLo b]) = (atsP.map (digN w)).map hxc := by
  have h24 := rB_of w 24 (by omega)
  have h16 := rB_of w 16 (by omega)
  have h8 := rB_of w 8 (by omega)
  have h0 : ((rB0 w).toNat : Int) = w % 256 := byte_of w
  simp only [rW, atsP, List.flatMap_cons, List.flatMap_nil, List.map_cons, List.map_nil, List.cons_append, List.nil_append, List.append_nil]
  rw [hi_of _ _ h24, lo_of _ _ h24, hi_of _ _ h16, lo_of _ _ h16, hi_of _ _ h8, lo_of _ _ h8, hi_of _ _ h0, lo_of _ _ h0]
  have e : ∀ k j : Nat, w / 2 ^ k / 2 ^ j = w / 2 ^ (k + j) := fun k j => by rw [Int.ediv_ediv_of_nonneg (Int.pow_nonneg (by omega)), ← Int.pow_add]
  have e24 := e 24 4
  have e16 := e 16 4
  have e8 := e 8 4
  simp only [show (2 : Int) ^ 4 = 16 from rfl] at e24 e16 e8
  unfold digN
  rw [e24, e16, e8]
  simp
theorem rTxt_eq (m : D4) : (rTxt m).data.toList = (digsP m).map hxc := by
  show ((rW m.d0 ++ (rW m.d1 ++ (rW m.d2 ++ rW m.d3))).flatMap fun b => [rHi b, rLo b]) = _
  rw [List.flatMap_append, List.flatMap_append, List.flatMap_append, rW_eq, rW_eq, rW_eq, rW_eq]
  simp [digsP]
def digAt (m : D4) (k : Nat) : Nat := (digsP m).getD k 0
theorem digAt_le (m : D4) (k : Nat) : digAt m k ≤ 15 := by
  unfold digAt
  rw [List.getD_eq_getElem?_getD]
  cases h : (digsP m)[k]? with
  | none => simp
  | some d => exact digsP_le m d (List.mem_of_getElem? h)
theorem digAt_get (m : D4) (k : Nat) (hk : k < 32) : (digsP m)[k]? = some (digAt m k) := by
  have : k < (digsP m).length := by rw [digsP_len]; exact hk
  unfold digAt
  rw [List.getD_eq_getElem?_getD, List.getElem?_eq_getElem this]; rfl
theorem rTxt_at (m : D4) (k : Nat) (hk : k < 32) : (rTxt m).data[k]? = some (hxc (digAt m k)) := by
  have h := congrArg (fun l : List UInt8 => l[k]?) (rTxt_eq m)
  simp only [List.getElem?_map, digAt_get m k hk, Option.map_some] at h
  simpa using h
theorem rTxt_size (m : D4) : (rTxt m).size = 32 := by
  rw [ba_size, rTxt_eq, List.length_map, digsP_len]
theorem rowN_app (a b : List Nat) : rowN (a ++ b) = rowN a ++ rowN b := List.map_append
theorem digs_take (m : D4) (k : Nat) (hk : k < 32) : rowN ((digsP m).take k) ++ [[iv (digAt m k)]] = rowN ((digsP m).take (k + 1)) := by
  rw [List.take_add_one, digAt_get m k hk, rowN_app]; rfl
theorem sum_take (m : D4) (k : Nat) (hk : k < 32) : sumN ((digsP m).take (k + 1)) 0 = sumN ((digsP m).take k) 0 + (15 - digAt m k) := by
  rw [List.take_add_one, digAt_get m k hk]
  unfold sumN
  rw [List.foldl_append]
  rfl
theorem sum_le (m : D4) (k : Nat) : sumN ((digsP m).take k) 0 ≤ 480 := by
  have := sumN_le ((digsP m).take k) 0
  have h2 : ((digsP m).take k).length ≤ 32 := by rw [List.length_take, digsP_len]; omega
  omega
set_option maxHeartbeats 8000000 in
theorem f80 (m : D4) : (lim Tryz.prog E47 X47).dat 80 [.agg m.row] = some [.vec 1 (rowN (stepsP m))] := by
  refine fnW Tryz.func80 rfl rfl bodyOk_80 rfl rtys_80 rfl ?_
  have h91 := f91r m
  have hsz := rTxt_size m
  have hat := Lib.hid (rTxt_at m)
  have hdt := Lib.hid (digs_take m)
  have hst := Lib.hid (sum_take m)
  have hsl := Lib.hid (sum_le m)
  have hdl := Lib.hid (digAt_le m)
  have hfin : rowN ((digsP m).take 32) ++ [[iv ((sumN ((digsP m).take 32) 0 / 256 % 16 : Nat) : Int)], [iv ((sumN ((digsP m).take 32) 0 / 16 % 16 : Nat) : Int)], [iv ((sumN ((digsP m).take 32) 0 % 16 : Nat) : Int)]] = rowN (stepsP m) := by
    have e : (digsP m).take 32 = digsP m := List.take_of_length_le (by rw [digsP_len]; omega)
    rw [e]; unfold stepsP; rw [rowN_app]; rfl
  have hfl : (rowN ((digsP m).take 32)).length = 32 := by rw [List.length_map, List.length_take, digsP_len]; rfl
  have hnl : ∀ k, k ≤ 32 → (rowN ((digsP m).take k)).length = k := fun k hk => by rw [List.length_map, List.length_take, digsP_len]; omega
  replace hnl := Lib.hid hnl
  replace hfin := Lib.hid hfin
  have hsf : (rowN (stepsP m)).length = 35 := rfl
  have htf : (rowN (stepsP m)).take 35 = rowN (stepsP m) := rfl
  obtain ⟨R, hR⟩ : ∃ R : Nat → List (List AV), ∀ k, R k = rowN ((digsP m).take k) := ⟨fun k => rowN ((digsP m).take k), fun _ => rfl⟩
  obtain ⟨S, hS⟩ : ∃ S : Nat → Nat, ∀ k, S k = sumN ((digsP m).take k) 0 := ⟨fun k => sumN ((digsP m).take k) 0, fun _ => rfl⟩
  have hR0 : R 0 = [] := by rw [hR]; rfl
  have hS0 : S 0 = 0 := by rw [hS]; rfl
  have hdt' : ∀ k, k < 32 → R k ++ [[iv (digAt m k)]] = R (k + 1) := fun k hk => by rw [hR, hR]; exact hdt.out k hk
  have hst' : ∀ k, k < 32 → S (k + 1) = S k + (15 - digAt m k) := fun k hk => by rw [hS, hS]; exact hst.out k hk
  have hsl' : ∀ k, S k ≤ 480 := fun k => by rw [hS]; exact hsl.out k
  have hnl' : ∀ k, k ≤ 32 → (R k).length = k := fun k hk => by rw [hR]; exact hnl.out k hk
  have hfin' : R 32 ++ [[iv ((S 32 / 256 % 16 : Nat) : Int)], [iv ((S 32 / 16 % 16 : Nat) : Int)], [iv ((S 32 % 16 : Nat) : Int)]] = rowN (stepsP m) := by rw [hR, hS]; exact hfin.out
  clear hdt hst hsl hnl hfin hR hS hfl
  replace hdt' := Lib.hid hdt'
  replace hst' := Lib.hid hst'
  replace hsl' := Lib.hid hsl'
  replace hnl' := Lib.hid hnl'
  replace hfin' := Lib.hid hfin'
  replace hR0 := Lib.hid hR0
  replace hS0 := Lib.hid hS0
  generalize rTxt m = T at *
  generalize rowN (stepsP m) = RZ at *
  obtain ⟨dg, hdg⟩ : ∃ dg : Nat → Nat, dg = digAt m := ⟨_, rfl⟩
  rw [← hdg] at hat hdt' hst' hdl
  clear hdg
  obtain ⟨m0, m1, m2, m3⟩ := m
  simp only [D4.row] at h91 ⊢
  repeat' (first
    | ((with_reducible first | apply Wo_u | apply Wo_n | apply ex2 | apply W_sc | apply W_c | apply Wd_u | apply Wd_n | apply ex4 | apply EndQ_ret | apply EndQ_normal); (conv => lhs; simp -implicitDefEqProofs [*]) <;> exact rfl)
    | (with_reducible first | apply Wo_nil | apply W_ss | apply W_srl | apply W_rl | apply W_sblock | apply W_block | apply W_sskip | apply W_skip | apply W_sret | apply W_ret | apply W_sexit | apply W_exit | apply thenW_n | apply thenW_r | apply thenW_e | apply inB_n | apply inB_r | apply inB_e)
    | ((with_reducible apply Wo_gt); (exact rfl); ((conv => lhs; simp -implicitDefEqProofs [*]) <;> exact rfl); (conv => lhs; simp -implicitDefEqProofs [*]) <;> exact rfl)
    | ((with_reducible apply Wo_gf); (exact rfl); ((conv => lhs; simp -implicitDefEqProofs [*]) <;> exact rfl); (exact rfl))
    | ((with_reducible apply Wo_gx); (exact rfl); ((conv => lhs; simp -implicitDefEqProofs [*]) <;> exact rfl))
    | ((with_reducible apply Wo_gsT); (exact rfl); ((conv => lhs; simp -implicitDefEqProofs [*]) <;> exact rfl))
    | ((with_reducible apply Wo_gsF); (exact rfl); ((conv => lhs; simp -implicitDefEqProofs [*]) <;> exact rfl))
    | ((with_reducible apply Wd_gsT); (exact rfl); ((conv => lhs; simp -implicitDefEqProofs [*]) <;> exact rfl))
    | ((with_reducible apply Wd_gsF); (exact rfl); ((conv => lhs; simp -implicitDefEqProofs [*]) <;> exact rfl))
    | ((with_reducible first | apply W_srdl | apply W_rdl); kernel_rfl)
    | ((with_reducible apply Wd_nil); exact rfl)
    | ((with_reducible apply inB_o); rotate_left; exact rfl)
    | (intro h h'; try simp [*, -h] at h'))
  refine W_loopS (n := 32) (fun s0 mm q => ∃ k g : Nat, mm = 32 - k ∧ k ≤ 32 ∧ q.fr 6 = iv k ∧ q.fr 3 = s0.fr 3 ∧ q.fr 5 = iv (S k) ∧ q.fr 4 = .own ⟨0, 4, 0⟩ g k ∧ q.hp ⟨0, 4, 0⟩ = .arr g 1 3 (R k) false) ⟨0, 1, by simp, by omega, by simp, by simp, by rw [hS0.out]; simp, by simp, by rw [hR0.out]; simp⟩ ?_
  rintro mm ⟨fr, hp⟩ ⟨k, g, rfl, hk, hs6, hs3, hs5, hs4, hh4⟩
  simp at hs6 hs3 hs5 hs4
  simp only at hh4
  have y4 : (R k).length = k := hnl'.out k hk
  by_cases hlt : k < 32
  · have hlI : (k : Int) < 32 := by omega
    have hw := wrapN (k := k) (by omega)
    have hb := hat.out k hlt
    have hb2 : ∀ h, T.data[k]'h = hxc (dg k) := fun h => by rw [Array.getElem?_eq_getElem h] at hb; exact Option.some.inj hb
    have y1 : (k + 1) * 8 ≤ 140737488355328 := by omega
    have y2 : k ≤ 9223372036854775806 := by omega
    have y5 := hdt'.out k hlt
    have hSk := hst'.out k hlt
    have hSl := hsl'.out k
    have hd15 := hdl.out k
    have w5 : IntKind.i64.wrap ((S k : Int) + 15) = (S k : Int) + 15 := wrap64 (by omega) (by omega)
    have w6 : IntKind.i64.wrap ((S k : Int) + 15 - (dg k : Int)) = (S (k + 1) : Int) := by rw [wrap64 (by omega) (by omega)]; omega
    by_cases h10 : dg k < 10
    · have hB := hxc_lo h10
      have w1 : IntKind.u8.wrap (((hxc (dg k)).toNat : Int) - 48) = (dg k : Int) := by rw [IntKind.wrap_u8]; omega
      have w2 : IntKind.i64.wrap (dg k : Int) = (dg k : Int) := wrap64 (by omega) (by omega)
      have h97 : ¬ (97 : Int) ≤ ((hxc (dg k)).toNat : Int) := by omega
      have h98 : ¬ 97 ≤ (hxc (dg k)).toNat := by omega
      clear hB h10
      generalize hxc (dg k) = BB at *
      generalize dg k = d at *
      generalize hRk : R k = RK at *
      generalize hRk1 : R (k + 1) = RK1 at *
      generalize hSk1 : S (k + 1) = SK1 at *
      generalize hSk0 : S k = SK at *
      clear hSk
      repeat' (first
        | ((with_reducible first | apply Wo_u | apply Wo_n | apply ex2 | apply W_sc | apply W_c | apply Wd_u | apply Wd_n | apply ex4 | apply EndQ_ret | apply EndQ_normal); (conv => lhs; simp -implicitDefEqProofs [*]) <;> exact rfl)
        | (with_reducible first | apply Wo_nil | apply W_ss | apply W_srl | apply W_rl | apply W_sblock | apply W_block | apply W_sskip | apply W_skip | apply W_sret | apply W_ret | apply W_sexit | apply W_exit | apply thenW_n | apply thenW_r | apply thenW_e | apply inB_n | apply inB_r | apply inB_e)
        | ((with_reducible apply Wo_gt); (exact rfl); ((conv => lhs; simp -implicitDefEqProofs [*]) <;> exact rfl); (conv => lhs; simp -implicitDefEqProofs [*]) <;> exact rfl)
        | ((with_reducible apply Wo_gf); (exact rfl); ((conv => lhs; simp -implicitDefEqProofs [*]) <;> exact rfl); (exact rfl))
        | ((with_reducible apply Wo_gx); (exact rfl); ((conv => lhs; simp -implicitDefEqProofs [*]) <;> exact rfl))
        | ((with_reducible apply Wo_gsT); (exact rfl); ((conv => lhs; simp -implicitDefEqProofs [*]) <;> exact rfl))
        | ((with_reducible apply Wo_gsF); (exact rfl); ((conv => lhs; simp -implicitDefEqProofs [*]) <;> exact rfl))
        | ((with_reducible apply Wd_gsT); (exact rfl); ((conv => lhs; simp -implicitDefEqProofs [*]) <;> exact rfl))
        | ((with_reducible apply Wd_gsF); (exact rfl); ((conv => lhs; simp -implicitDefEqProofs [*]) <;> exact rfl))
        | ((with_reducible first | apply W_srdl | apply W_rdl); kernel_rfl)
        | ((with_reducible apply Wd_nil); exact rfl)
        | ((with_reducible apply inB_o); rotate_left; exact rfl)
        | (intro h h'; try simp [*, -h] at h'))
      all_goals exact ⟨32 - (k + 1), by omega, k + 1, g + 1, rfl, hlt, by simp [*], by simp [*], by simp [*], by simp [*], by simp [*]⟩
    · have hB := hxc_hi h10 hd15
      have w1 : IntKind.u8.wrap (((hxc (dg k)).toNat : Int) - 48) = (dg k : Int) + 39 := by rw [IntKind.wrap_u8]; omega
      have w0 : IntKind.i64.wrap ((dg k : Int) + 39) = (dg k : Int) + 39 := wrap64 (by omega) (by omega)
      have w3 : IntKind.u8.wrap (((hxc (dg k)).toNat : Int) - 97) = (dg k : Int) - 10 := by rw [IntKind.wrap_u8]; omega
      have w4 : IntKind.i64.wrap ((dg k : Int) - 10) = (dg k : Int) - 10 := wrap64 (by omega) (by omega)
      have w2 : IntKind.i64.wrap (dg k : Int) = (dg k : Int) := wrap64 (by omega) (by omega)
      have h97 : (97 : Int) ≤ ((hxc (dg k)).toNat : Int) := by omega
      have h98 : 97 ≤ (hxc (dg k)).toNat := by omega
      clear hB h10
      generalize hxc (dg k) = BB at *
      generalize dg k = d at *
      generalize hRk : R k = RK at *
      generalize hRk1 : R (k + 1) = RK1 at *
      generalize hSk1 : S (k + 1) = SK1 at *
      generalize hSk0 : S k = SK at *
      clear hSk
      repeat' (first
        | ((with_reducible first | apply Wo_u | apply Wo_n | apply ex2 | apply W_sc | apply W_c | apply Wd_u | apply Wd_n | apply ex4 | apply EndQ_ret | apply EndQ_normal); (conv => lhs; simp -implicitDefEqProofs [*]) <;> exact rfl)
        | (with_reducible first | apply Wo_nil | apply W_ss | apply W_srl | apply W_rl | apply W_sblock | apply W_block | apply W_sskip | apply W_skip | apply W_sret | apply W_ret | apply W_sexit | apply W_exit | apply thenW_n | apply thenW_r | apply thenW_e | apply inB_n | apply inB_r | apply inB_e)
        | ((with_reducible apply Wo_gt); (exact rfl); ((conv => lhs; simp -implicitDefEqProofs [*]) <;> exact rfl); (conv => lhs; simp -implicitDefEqProofs [*]) <;> exact rfl)
        | ((with_reducible apply Wo_gf); (exact rfl); ((conv => lhs; simp -implicitDefEqProofs [*]) <;> exact rfl); (exact rfl))
        | ((with_reducible apply Wo_gx); (exact rfl); ((conv => lhs; simp -implicitDefEqProofs [*]) <;> exact rfl))
        | ((with_reducible apply Wo_gsT); (exact rfl); ((conv => lhs; simp -implicitDefEqProofs [*]) <;> exact rfl))
        | ((with_reducible apply Wo_gsF); (exact rfl); ((conv => lhs; simp -implicitDefEqProofs [*]) <;> exact rfl))
        | ((with_reducible apply Wd_gsT); (exact rfl); ((conv => lhs; simp -implicitDefEqProofs [*]) <;> exact rfl))
        | ((with_reducible apply Wd_gsF); (exact rfl); ((conv => lhs; simp -implicitDefEqProofs [*]) <;> exact rfl))
        | ((with_reducible first | apply W_srdl | apply W_rdl); kernel_rfl)
        | ((with_reducible apply Wd_nil); exact rfl)
        | ((with_reducible apply inB_o); rotate_left; exact rfl)
        | (intro h h'; try simp [*, -h] at h'))
      all_goals exact ⟨32 - (k + 1), by omega, k + 1, g + 1, rfl, hlt, by simp [*], by simp [*], by simp [*], by simp [*], by simp [*]⟩
  · obtain rfl : k = 32 := by omega
    have hSl := hsl'.out 32
    have v1 : IntKind.i64.wrap ((S 32 : Int).tdiv 256) = ((S 32 / 256 % 16 : Nat) : Int) := by rw [Int.tdiv_eq_ediv_of_nonneg (by omega), wrap64 (by omega) (by omega)]; omega
    have v2 : IntKind.i64.wrap ((S 32 : Int).tdiv 16) = ((S 32 / 16 : Nat) : Int) := by rw [Int.tdiv_eq_ediv_of_nonneg (by omega), wrap64 (by omega) (by omega)]; omega
    have v1b : IntKind.i64.wrap ((S 32 : Int) / 256) = ((S 32 / 256 % 16 : Nat) : Int) := by rw [wrap64 (by omega) (by omega)]; omega
    have v2b : IntKind.i64.wrap ((S 32 : Int) / 16) = ((S 32 / 16 : Nat) : Int) := by rw [wrap64 (by omega) (by omega)]; omega
    have v3 : (((S 32 / 16 : Nat) : Int)).tmod 16 = ((S 32 / 16 % 16 : Nat) : Int) := by rw [Int.tmod_eq_emod_of_nonneg (by omega)]; omega
    have v4 : ((S 32 : Int)).tmod 16 = ((S 32 % 16 : Nat) : Int) := by rw [Int.tmod_eq_emod_of_nonneg (by omega)]; omega
    have y5 := hfin'.out
    generalize hq1 : S 32 / 256 % 16 = Q1 at *
    generalize hq2 : S 32 / 16 % 16 = Q2 at *
    generalize hq3 : S 32 % 16 = Q3 at *
    generalize hq4 : S 32 / 16 = Q4 at *
    generalize hq5 : S 32 = Q5 at *
    clear hq1 hq2 hq3 hq4 hSl
    generalize R 32 = RK at *
    repeat' (first
      | ((with_reducible first | apply Wo_u | apply Wo_n | apply ex2 | apply W_sc | apply W_c | apply Wd_u | apply Wd_n | apply ex4 | apply EndQ_ret | apply EndQ_normal); (conv => lhs; simp -implicitDefEqProofs [*]) <;> exact rfl)
      | (with_reducible first | apply Wo_nil | apply W_ss | apply W_srl | apply W_rl | apply W_sblock | apply W_block | apply W_sskip | apply W_skip | apply W_sret | apply W_ret | apply W_sexit | apply W_exit | apply thenW_n | apply thenW_r | apply thenW_e | apply inB_n | apply inB_r | apply inB_e)
      | ((with_reducible apply Wo_gt); (exact rfl); ((conv => lhs; simp -implicitDefEqProofs [*]) <;> exact rfl); (conv => lhs; simp -implicitDefEqProofs [*]) <;> exact rfl)
      | ((with_reducible apply Wo_gf); (exact rfl); ((conv => lhs; simp -implicitDefEqProofs [*]) <;> exact rfl); (exact rfl))
      | ((with_reducible apply Wo_gx); (exact rfl); ((conv => lhs; simp -implicitDefEqProofs [*]) <;> exact rfl))
      | ((with_reducible apply Wo_gsT); (exact rfl); ((conv => lhs; simp -implicitDefEqProofs [*]) <;> exact rfl))
      | ((with_reducible apply Wo_gsF); (exact rfl); ((conv => lhs; simp -implicitDefEqProofs [*]) <;> exact rfl))
      | ((with_reducible apply Wd_gsT); (exact rfl); ((conv => lhs; simp -implicitDefEqProofs [*]) <;> exact rfl))
      | ((with_reducible apply Wd_gsF); (exact rfl); ((conv => lhs; simp -implicitDefEqProofs [*]) <;> exact rfl))
      | ((with_reducible first | apply W_srdl | apply W_rdl); kernel_rfl)
      | ((with_reducible apply Wd_nil); exact rfl)
      | ((with_reducible apply inB_o); rotate_left; exact rfl)
      | (intro h h'; try simp [*, -h] at h'))
    all_goals rfl
end Go.Proofs.YtdokejnokhicbaaGreatDoor

namespace Go.Proofs.YtdokejnokhicbaaGreatDoor
open Go Go.Ab
set_option linter.unusedSimpArgs false
set_option linter.unusedVariables false
attribute [-simp] Prog.bind getCs putCs
attribute [local simp ↓] run_bind
attribute [local simp ↓] runF_bind
attribute [local simp] run_getCsN runF_getCsN facetsC putCs_one run_putCsN runF_putCsN facetsW facetsH
attribute [local simp ↓] evInt_xor evInt_or evInt_and64
set_option maxHeartbeats 4000000 in
theorem f81 (x : D4) (n : Nat) (hn : n ≤ 1048576) : (lim Tryz.prog E47 X47).dat 81 [.agg [uv x.d0, uv x.d1, uv x.d2, uv x.d3], iv n] = some [.agg [uv (walkP x n).d0, uv (walkP x n).d1, uv (walkP x n).d2, uv (walkP x n).d3]] := by
  refine fnW Tryz.func81 rfl rfl bodyOk_81 rfl rtys_81 rfl ?_
  have h34 : ∀ k, (lim Tryz.prog E47 X47).dat 34 [.agg [uv (walkP x k).d0, uv (walkP x k).d1, uv (walkP x k).d2, uv (walkP x k).d3], .agg [uv 0, uv 0, uv 0, uv 1]] = some [.agg [uv (walkP x (k + 1)).d0, uv (walkP x (k + 1)).d1, uv (walkP x (k + 1)).d2, uv (walkP x (k + 1)).d3]] := fun k => f34 (walkP x k) ⟨0, 0, 0, 1⟩
  replace h34 := Lib.hid h34
  repeat' (first
    | ((with_reducible first | apply Wo_u | apply Wo_n | apply ex2 | apply W_sc | apply W_c | apply Wd_u | apply Wd_n | apply ex4 | apply EndQ_ret | apply EndQ_normal); (conv => lhs; simp -implicitDefEqProofs [*]) <;> exact rfl)
    | (with_reducible first | apply Wo_nil | apply W_ss | apply W_srl | apply W_rl | apply W_sblock | apply W_block | apply W_sskip | apply W_skip | apply W_sret | apply W_ret | apply W_sexit | apply W_exit | apply thenW_n | apply thenW_r | apply thenW_e | apply inB_n | apply inB_r | apply inB_e)
    | ((with_reducible apply Wo_gt); (exact rfl); ((conv => lhs; simp -implicitDefEqProofs [*]) <;> exact rfl); (conv => lhs; simp -implicitDefEqProofs [*]) <;> exact rfl)
    | ((with_reducible apply Wo_gf); (exact rfl); ((conv => lhs; simp -implicitDefEqProofs [*]) <;> exact rfl); (exact rfl))
    | ((with_reducible apply Wo_gx); (exact rfl); ((conv => lhs; simp -implicitDefEqProofs [*]) <;> exact rfl))
    | ((with_reducible apply Wo_gsT); (exact rfl); ((conv => lhs; simp -implicitDefEqProofs [*]) <;> exact rfl))
    | ((with_reducible apply Wo_gsF); (exact rfl); ((conv => lhs; simp -implicitDefEqProofs [*]) <;> exact rfl))
    | ((with_reducible apply Wd_gsT); (exact rfl); ((conv => lhs; simp -implicitDefEqProofs [*]) <;> exact rfl))
    | ((with_reducible apply Wd_gsF); (exact rfl); ((conv => lhs; simp -implicitDefEqProofs [*]) <;> exact rfl))
    | ((with_reducible first | apply W_srdl | apply W_rdl); kernel_rfl)
    | ((with_reducible apply Wd_nil); exact rfl)
    | ((with_reducible apply inB_o); rotate_left; exact rfl)
    | (intro h h'; try simp [*, -h] at h'))
  refine W_loopS (n := n) (fun s0 m q => ∃ k : Nat, m = n - k ∧ k ≤ n ∧ q.fr 5 = iv k ∧ q.hp ⟨0, 2, 0⟩ = .box 1 [uv (walkP x k).d0, uv (walkP x k).d1, uv (walkP x k).d2, uv (walkP x k).d3] false ∧ q.fr 1 = s0.fr 1 ∧ q.fr 2 = s0.fr 2 ∧ q.fr 4 = s0.fr 4 ∧ q.hp ⟨0, 4, 0⟩ = s0.hp ⟨0, 4, 0⟩) ⟨0, by omega, by omega, by simp, by simp [walkP], by simp, by simp, by simp, by simp⟩ ?_
  rintro m ⟨fr, hp⟩ ⟨k, rfl, hk, hs5, hb2, hs1, hs2, hs4, hb4⟩
  simp at hs5 hb2 hs1 hs2 hs4 hb4
  by_cases hlt : k < n
  · have hlI : (k : Int) < n := by omega
    have hw := wrapN (k := k) (by omega)
    have h := h34.out k
    repeat' (first
      | ((with_reducible first | apply Wo_u | apply Wo_n | apply ex2 | apply W_sc | apply W_c | apply Wd_u | apply Wd_n | apply ex4 | apply EndQ_ret | apply EndQ_normal); (conv => lhs; simp -implicitDefEqProofs [*]) <;> exact rfl)
      | (with_reducible first | apply Wo_nil | apply W_ss | apply W_srl | apply W_rl | apply W_sblock | apply W_block | apply W_sskip | apply W_skip | apply W_sret | apply W_ret | apply W_sexit | apply W_exit | apply thenW_n | apply thenW_r | apply thenW_e | apply inB_n | apply inB_r | apply inB_e)
      | ((with_reducible apply Wo_gt); (exact rfl); ((conv => lhs; simp -implicitDefEqProofs [*]) <;> exact rfl); (conv => lhs; simp -implicitDefEqProofs [*]) <;> exact rfl)
      | ((with_reducible apply Wo_gf); (exact rfl); ((conv => lhs; simp -implicitDefEqProofs [*]) <;> exact rfl); (exact rfl))
      | ((with_reducible apply Wo_gx); (exact rfl); ((conv => lhs; simp -implicitDefEqProofs [*]) <;> exact rfl))
      | ((with_reducible apply Wo_gsT); (exact rfl); ((conv => lhs; simp -implicitDefEqProofs [*]) <;> exact rfl))
      | ((with_reducible apply Wo_gsF); (exact rfl); ((conv => lhs; simp -implicitDefEqProofs [*]) <;> exact rfl))
      | ((with_reducible apply Wd_gsT); (exact rfl); ((conv => lhs; simp -implicitDefEqProofs [*]) <;> exact rfl))
      | ((with_reducible apply Wd_gsF); (exact rfl); ((conv => lhs; simp -implicitDefEqProofs [*]) <;> exact rfl))
      | ((with_reducible first | apply W_srdl | apply W_rdl); kernel_rfl)
      | ((with_reducible apply Wd_nil); exact rfl)
      | ((with_reducible apply inB_o); rotate_left; exact rfl)
      | (intro h h'; try simp [*, -h] at h'))
    all_goals exact ⟨n - (k + 1), by omega, k + 1, rfl, by omega, by simp [*], by simp [*], by simp [*], by simp [*], by simp [*], by simp [*]⟩
  · obtain rfl : k = n := by omega
    repeat' (first
      | ((with_reducible first | apply Wo_u | apply Wo_n | apply ex2 | apply W_sc | apply W_c | apply Wd_u | apply Wd_n | apply ex4 | apply EndQ_ret | apply EndQ_normal); (conv => lhs; simp -implicitDefEqProofs [*]) <;> exact rfl)
      | (with_reducible first | apply Wo_nil | apply W_ss | apply W_srl | apply W_rl | apply W_sblock | apply W_block | apply W_sskip | apply W_skip | apply W_sret | apply W_ret | apply W_sexit | apply W_exit | apply thenW_n | apply thenW_r | apply thenW_e | apply inB_n | apply inB_r | apply inB_e)
      | ((with_reducible apply Wo_gt); (exact rfl); ((conv => lhs; simp -implicitDefEqProofs [*]) <;> exact rfl); (conv => lhs; simp -implicitDefEqProofs [*]) <;> exact rfl)
      | ((with_reducible apply Wo_gf); (exact rfl); ((conv => lhs; simp -implicitDefEqProofs [*]) <;> exact rfl); (exact rfl))
      | ((with_reducible apply Wo_gx); (exact rfl); ((conv => lhs; simp -implicitDefEqProofs [*]) <;> exact rfl))
      | ((with_reducible apply Wo_gsT); (exact rfl); ((conv => lhs; simp -implicitDefEqProofs [*]) <;> exact rfl))
      | ((with_reducible apply Wo_gsF); (exact rfl); ((conv => lhs; simp -implicitDefEqProofs [*]) <;> exact rfl))
      | ((with_reducible apply Wd_gsT); (exact rfl); ((conv => lhs; simp -implicitDefEqProofs [*]) <;> exact rfl))
      | ((with_reducible apply Wd_gsF); (exact rfl); ((conv => lhs; simp -implicitDefEqProofs [*]) <;> exact rfl))
      | ((with_reducible first | apply W_srdl | apply W_rdl); kernel_rfl)
      | ((with_reducible apply Wd_nil); exact rfl)
      | ((with_reducible apply inB_o); rotate_left; exact rfl)
      | (intro h h'; try simp [*, -h] at h'))
    all_goals rfl
def beginR (s : D4) (i : Int) : D4 := pairP s ⟨IntKind.u32.wrap i, 0, 0, 0⟩
set_option maxRecDepth 100000 in
set_option maxHeartbeats 4000000 in
theorem f82 (s : D4) (i : Int) : (lim Tryz.prog E47 X47).dat 82 [.agg s.row, iv i] = some [.agg (beginR s i).row] := runXb (n := 100) (by kernel_rfl)
theorem beginR_eq (s : D4) (i : Nat) (hi : i < 4294967296) : beginR s i = beginP s i := by
  unfold beginR beginP
  rw [IntKind.wrap_u32]
  congr 2; omega
theorem f82n (s : D4) (i : Nat) (hi : i < 4294967296) : (lim Tryz.prog E47 X47).dat 82 [.agg s.row, iv i] = some [.agg (beginP s i).row] := by rw [f82, beginR_eq s i hi]
/-! ### public keys -/
def o82 : List AV → Option (List AV)
  | [.agg a, .sc (.int .i64 i)] => match d4O a with
    | some x => some [.agg (beginR x i).row]
    | none => none
  | _ => none
def o81 : List AV → Option (List AV)
  | [.agg a, .sc (.int .i64 (Int.ofNat n))] => match d4O a with
    | some x => if n ≤ 1048576 then some [.agg (walkP x n).row] else none
    | none => none
  | _ => none
theorem o82_ok {a r : List AV} (h : o82 a = some r) : (lim Tryz.prog E47 X47).dat 82 a = some r := by
  unfold o82 at h
  split at h
  · split at h
    · rename_i x hx
      cases h
      rw [d4O_row hx]
      exact f82 x _
    · cases h
  · cases h
theorem o81_ok {a r : List AV} (h : o81 a = some r) : (lim Tryz.prog E47 X47).dat 81 a = some r := by
  unfold o81 at h
  split at h
  · split at h
    · rename_i x hx
      split at h
      · rename_i hn
        cases h
        rw [d4O_row hx]
        exact f81 x _ hn
      · cases h
    · cases h
  · cases h
def Xc : Orc := ⟨fun f args => if f = 81 then o81 args else if f = 82 then o82 args else Xb.dat f args, X47.hpc⟩
theorem Xc_le : Xc.le (lim Tryz.prog E47 X47) := by
  refine ⟨fun f a r h => ?_, fun k d f a hp r h => X47_le.hpc _ _ _ _ _ _ h⟩
  simp only [Xc] at h
  by_cases h81 : f = 81
  · subst h81; simp only [if_true] at h; exact o81_ok h
  simp only [h81, if_false] at h
  by_cases h82 : f = 82
  · subst h82; simp only [if_true] at h; exact o82_ok h
  simp only [h82, if_false] at h
  exact Xb_le.dat _ _ _ h
theorem le_Xc : X47.le Xc := by
  refine ⟨fun f a r h => ?_, fun k d f a hp r h => h⟩
  have hf : f = 23 := by
    simp only [X47] at h
    split at h
    · assumption
    · cases h
  subst hf
  exact h
theorem runXc {n f : Nat} {a r : List AV} (h : (evCall Tryz.prog E47 Xc n).dat f a = some r) : (lim Tryz.prog E47 X47).dat f a = some r := run_of le_Xc Xc_le h
def publicR (s : D4) : D4 := togetherP (fun (i : Nat) => walkP (beginR s i) 15) 35
theorem publicR_eq (s : D4) : publicR s = publicP s := togetherP_congr 35 fun i hi => by rw [beginR_eq s i (by omega)]
set_option maxRecDepth 100000 in
set_option maxHeartbeats 4000000 in
theorem f63r (s : D4) : (lim Tryz.prog E47 X47).dat 63 [.agg s.row] = some [.agg (publicR s).row] := runXc (n := 300) (by kernel_rfl)
theorem f63 (s : D4) : (lim Tryz.prog E47 X47).dat 63 [.agg s.row] = some [.agg (publicP s).row] := by rw [f63r, publicR_eq]
set_option maxHeartbeats 8000000 in
theorem f57 (s m : D4) : (lim Tryz.prog E47 X47).dat 57 [.agg s.row, .agg m.row] = some [.vec 4 (rowG (signP s m))] := by
  refine fnW Tryz.func57 rfl rfl bodyOk_57 rfl rtys_57 rfl ?_
  have h80 := f80 m
  have hNl : (rowN (stepsP m)).length = 35 := rfl
  have hrow := Lib.hid (stepAt_row m)
  have h82a := Lib.hid (f82n s)
  have h81a := Lib.hid f81
  have hsg := Lib.hid (signP_take s m)
  have hle := Lib.hid (stepAt_le m)
  obtain ⟨a0, a1, a2, a3⟩ := s
  obtain ⟨m0, m1, m2, m3⟩ := m
  generalize hS : (⟨a0, a1, a2, a3⟩ : D4) = s at *
  generalize hM : (⟨m0, m1, m2, m3⟩ : D4) = m at *
  have hs0 : s.row = [uv a0, uv a1, uv a2, uv a3] := by rw [← hS]; rfl
  have hm0 : m.row = [uv m0, uv m1, uv m2, uv m3] := by rw [← hM]; rfl
  clear hS hM
  rw [hs0, hm0]
  rw [hm0] at h80
  have h82b : ∀ i : Nat, i < 4294967296 → (lim Tryz.prog E47 X47).dat 82 [.agg [uv a0, uv a1, uv a2, uv a3], iv i] = some [.agg (beginP s i).row] := fun i hi => by rw [← hs0]; exact h82a.out i hi
  replace h82b := Lib.hid h82b
  clear h82a hs0 hm0
  generalize hRN : rowN (stepsP m) = RS at *
  repeat' (first
    | ((with_reducible first | apply Wo_u | apply Wo_n | apply ex2 | apply W_sc | apply W_c | apply Wd_u | apply Wd_n | apply ex4 | apply EndQ_ret | apply EndQ_normal); (conv => lhs; simp -implicitDefEqProofs [*]) <;> exact rfl)
    | (with_reducible first | apply Wo_nil | apply W_ss | apply W_srl | apply W_rl | apply W_sblock | apply W_block | apply W_sskip | apply W_skip | apply W_sret | apply W_ret | apply W_sexit | apply W_exit | apply thenW_n | apply thenW_r | apply thenW_e | apply inB_n | apply inB_r | apply inB_e)
    | ((with_reducible apply Wo_gt); (exact rfl); ((conv => lhs; simp -implicitDefEqProofs [*]) <;> exact rfl); (conv => lhs; simp -implicitDefEqProofs [*]) <;> exact rfl)
    | ((with_reducible apply Wo_gf); (exact rfl); ((conv => lhs; simp -implicitDefEqProofs [*]) <;> exact rfl); (exact rfl))
    | ((with_reducible apply Wo_gx); (exact rfl); ((conv => lhs; simp -implicitDefEqProofs [*]) <;> exact rfl))
    | ((with_reducible apply Wo_gsT); (exact rfl); ((conv => lhs; simp -implicitDefEqProofs [*]) <;> exact rfl))
    | ((with_reducible apply Wo_gsF); (exact rfl); ((conv => lhs; simp -implicitDefEqProofs [*]) <;> exact rfl))
    | ((with_reducible apply Wd_gsT); (exact rfl); ((conv => lhs; simp -implicitDefEqProofs [*]) <;> exact rfl))
    | ((with_reducible apply Wd_gsF); (exact rfl); ((conv => lhs; simp -implicitDefEqProofs [*]) <;> exact rfl))
    | ((with_reducible first | apply W_srdl | apply W_rdl); kernel_rfl)
    | ((with_reducible apply Wd_nil); exact rfl)
    | ((with_reducible apply inB_o); rotate_left; exact rfl)
    | (intro h h'; try simp [*, -h] at h'))
  refine W_loopS (n := 35) (fun s0 mm q => ∃ k g : Nat, mm = 35 - k ∧ k ≤ 35 ∧ q.fr 7 = iv k ∧ q.fr 5 = s0.fr 5 ∧ q.hp ⟨0, 9, 0⟩ = s0.hp ⟨0, 9, 0⟩ ∧ q.fr 2 = s0.fr 2 ∧ q.hp ⟨0, 2, 0⟩ = s0.hp ⟨0, 2, 0⟩ ∧ q.fr 6 = .own ⟨0, 6, 0⟩ g k ∧ q.hp ⟨0, 6, 0⟩ = .arr g 4 24 (rowG ((signP s m).take k)) false) ⟨0, 1, by simp, by omega, by simp, by simp, by simp, by simp, by simp, by simp, by simp⟩ ?_
  rintro mm ⟨fr, hp⟩ ⟨k, g, rfl, hk, hs7, hs5, hh9, hs2, hh2, hs6, hh6⟩
  simp [hNl] at hs7 hs5 hh9 hs2 hh2 hs6
  simp only at hh6
  by_cases hlt : k < 35
  · have hlI : (k : Int) < 35 := by omega
    have hw := wrapN (k := k) (by omega)
    have hg := hrow.out k hlt
    have hg2 : ∀ h, RS[k]'h = [iv (stepAt m k)] := fun h => by rw [List.getElem?_eq_getElem h] at hg; exact Option.some.inj hg
    have hx82 := h82b.out k (by omega)
    have hx81 : (lim Tryz.prog E47 X47).dat 81 [.agg [uv (beginP s k).d0, uv (beginP s k).d1, uv (beginP s k).d2, uv (beginP s k).d3], iv (stepAt m k)] = some [.agg [uv (walkP (beginP s k) (stepAt m k)).d0, uv (walkP (beginP s k) (stepAt m k)).d1, uv (walkP (beginP s k) (stepAt m k)).d2, uv (walkP (beginP s k) (stepAt m k)).d3]] := h81a.out (beginP s k) (stepAt m k) (by have := hle.out k; omega)
    have y1 : (k + 1) * 16 ≤ 140737488355328 := by omega
    have y2 : k ≤ 9223372036854775806 := by omega
    have y4 : (rowG ((signP s m).take k)).length = k := by rw [List.length_map, List.length_take, signP_len]; omega
    have y5 := hsg.out k hlt
    obtain ⟨RZ, hRZ⟩ : ∃ RZ, RZ = rowG ((signP s m).take (k + 1)) := ⟨_, rfl⟩
    rw [← hRZ] at y5
    have hRZK := Lib.hid hRZ
    clear hRZ
    generalize stepAt m k = nk at *
    generalize beginP s k = y at *
    generalize walkP y nk = z at *
    generalize rowG ((signP s m).take k) = RN at *
    obtain ⟨y0, y1', y2', y3⟩ := y
    obtain ⟨z0, z1, z2, z3⟩ := z
    simp only [D4.row] at hx82 hx81 y5
    repeat' (first
      | ((with_reducible first | apply Wo_u | apply Wo_n | apply ex2 | apply W_sc | apply W_c | apply Wd_u | apply Wd_n | apply ex4 | apply EndQ_ret | apply EndQ_normal); (conv => lhs; simp -implicitDefEqProofs [*]) <;> exact rfl)
      | (with_reducible first | apply Wo_nil | apply W_ss | apply W_srl | apply W_rl | apply W_sblock | apply W_block | apply W_sskip | apply W_skip | apply W_sret | apply W_ret | apply W_sexit | apply W_exit | apply thenW_n | apply thenW_r | apply thenW_e | apply inB_n | apply inB_r | apply inB_e)
      | ((with_reducible apply Wo_gt); (exact rfl); ((conv => lhs; simp -implicitDefEqProofs [*]) <;> exact rfl); (conv => lhs; simp -implicitDefEqProofs [*]) <;> exact rfl)
      | ((with_reducible apply Wo_gf); (exact rfl); ((conv => lhs; simp -implicitDefEqProofs [*]) <;> exact rfl); (exact rfl))
      | ((with_reducible apply Wo_gx); (exact rfl); ((conv => lhs; simp -implicitDefEqProofs [*]) <;> exact rfl))
      | ((with_reducible apply Wo_gsT); (exact rfl); ((conv => lhs; simp -implicitDefEqProofs [*]) <;> exact rfl))
      | ((with_reducible apply Wo_gsF); (exact rfl); ((conv => lhs; simp -implicitDefEqProofs [*]) <;> exact rfl))
      | ((with_reducible apply Wd_gsT); (exact rfl); ((conv => lhs; simp -implicitDefEqProofs [*]) <;> exact rfl))
      | ((with_reducible apply Wd_gsF); (exact rfl); ((conv => lhs; simp -implicitDefEqProofs [*]) <;> exact rfl))
      | ((with_reducible first | apply W_srdl | apply W_rdl); kernel_rfl)
      | ((with_reducible apply Wd_nil); exact rfl)
      | ((with_reducible apply inB_o); rotate_left; exact rfl)
      | (intro h h'; try simp [*, -h] at h'))
    all_goals exact ⟨35 - (k + 1), by omega, k + 1, g + 1, rfl, hlt, by simp [*], by simp [*], by simp [*], by simp [*], by simp [*], by simp [*], by rw [← hRZK.out]; simp [*]⟩
  · obtain rfl : k = 35 := by omega
    have hta : (signP s m).take 35 = signP s m := List.take_of_length_le (by rw [signP_len]; omega)
    rw [hta] at hh6
    have y4 : (rowG (signP s m)).length = 35 := by rw [List.length_map, signP_len]
    have y5 : (rowG (signP s m)).take 35 = rowG (signP s m) := List.take_of_length_le (by omega)
    generalize rowG (signP s m) = RN at *
    repeat' (first
      | ((with_reducible first | apply Wo_u | apply Wo_n | apply ex2 | apply W_sc | apply W_c | apply Wd_u | apply Wd_n | apply ex4 | apply EndQ_ret | apply EndQ_normal); (conv => lhs; simp -implicitDefEqProofs [*]) <;> exact rfl)
      | (with_reducible first | apply Wo_nil | apply W_ss | apply W_srl | apply W_rl | apply W_sblock | apply W_block | apply W_sskip | apply W_skip | apply W_sret | apply W_ret | apply W_sexit | apply W_exit | apply thenW_n | apply thenW_r | apply thenW_e | apply inB_n | apply inB_r | apply inB_e)
      | ((with_reducible apply Wo_gt); (exact rfl); ((conv => lhs; simp -implicitDefEqProofs [*]) <;> exact rfl); (conv => lhs; simp -implicitDefEqProofs [*]) <;> exact rfl)
      | ((with_reducible apply Wo_gf); (exact rfl); ((conv => lhs; simp -implicitDefEqProofs [*]) <;> exact rfl); (exact rfl))
      | ((with_reducible apply Wo_gx); (exact rfl); ((conv => lhs; simp -implicitDefEqProofs [*]) <;> exact rfl))
      | ((with_reducible apply Wo_gsT); (exact rfl); ((conv => lhs; simp -implicitDefEqProofs [*]) <;> exact rfl))
      | ((with_reducible apply Wo_gsF); (exact rfl); ((conv => lhs; simp -implicitDefEqProofs [*]) <;> exact rfl))
      | ((with_reducible apply Wd_gsT); (exact rfl); ((conv => lhs; simp -implicitDefEqProofs [*]) <;> exact rfl))
      | ((with_reducible apply Wd_gsF); (exact rfl); ((conv => lhs; simp -implicitDefEqProofs [*]) <;> exact rfl))
      | ((with_reducible first | apply W_srdl | apply W_rdl); kernel_rfl)
      | ((with_reducible apply Wd_nil); exact rfl)
      | ((with_reducible apply inB_o); rotate_left; exact rfl)
      | (intro h h'; try simp [*, -h] at h'))
    all_goals rfl
theorem eqL_refl (x : D4) : eqL x.row x.row = some true := by simp [eqL, D4.row]
attribute [-simp] eqL
set_option maxHeartbeats 4000000 in
theorem f19 (l : List D4) (hl : l.length ≤ 1000000) : (lim Tryz.prog E47 X47).dat 19 [.sl false 4 (rowG l), .sl false 4 (rowG l)] = some [bv true] := by
  refine fnW Tryz.func19 rfl rfl bodyOk_19 rfl rtys_19 rfl ?_
  have hRl : (rowG l).length = l.length := by simp
  have hrow : ∀ k, k < l.length → ∃ x : D4, (rowG l)[k]? = some x.row := fun k hk => ⟨l[k], by rw [List.getElem?_map, List.getElem?_eq_getElem hk]; rfl⟩
  replace hrow := Lib.hid hrow
  generalize rowG l = RG at *
  repeat' (first
    | ((with_reducible first | apply Wo_u | apply Wo_n | apply ex2 | apply W_sc | apply W_c | apply Wd_u | apply Wd_n | apply ex4 | apply EndQ_ret | apply EndQ_normal); (conv => lhs; simp -implicitDefEqProofs [*]) <;> exact rfl)
    | (with_reducible first | apply Wo_nil | apply W_ss | apply W_srl | apply W_rl | apply W_sblock | apply W_block | apply W_sskip | apply W_skip | apply W_sret | apply W_ret | apply W_sexit | apply W_exit | apply thenW_n | apply thenW_r | apply thenW_e | apply inB_n | apply inB_r | apply inB_e)
    | ((with_reducible apply Wo_gt); (exact rfl); ((conv => lhs; simp -implicitDefEqProofs [*]) <;> exact rfl); (conv => lhs; simp -implicitDefEqProofs [*]) <;> exact rfl)
    | ((with_reducible apply Wo_gf); (exact rfl); ((conv => lhs; simp -implicitDefEqProofs [*]) <;> exact rfl); (exact rfl))
    | ((with_reducible apply Wo_gx); (exact rfl); ((conv => lhs; simp -implicitDefEqProofs [*]) <;> exact rfl))
    | ((with_reducible apply Wo_gsT); (exact rfl); ((conv => lhs; simp -implicitDefEqProofs [*]) <;> exact rfl))
    | ((with_reducible apply Wo_gsF); (exact rfl); ((conv => lhs; simp -implicitDefEqProofs [*]) <;> exact rfl))
    | ((with_reducible apply Wd_gsT); (exact rfl); ((conv => lhs; simp -implicitDefEqProofs [*]) <;> exact rfl))
    | ((with_reducible apply Wd_gsF); (exact rfl); ((conv => lhs; simp -implicitDefEqProofs [*]) <;> exact rfl))
    | ((with_reducible first | apply W_srdl | apply W_rdl); kernel_rfl)
    | ((with_reducible apply Wd_nil); exact rfl)
    | ((with_reducible apply inB_o); rotate_left; exact rfl)
    | (intro h h'; try simp [*, -h] at h'))
  refine W_loopS (n := l.length) (fun s0 mm q => ∃ k : Nat, mm = l.length - k ∧ k ≤ l.length ∧ q.fr 5 = iv k ∧ q.fr 0 = s0.fr 0 ∧ q.fr 1 = s0.fr 1) ⟨0, by simp, by omega, by simp, by simp, by simp⟩ ?_
  rintro mm ⟨fr, hp⟩ ⟨k, rfl, hk, hs5, hs0, hs1⟩
  simp at hs5 hs0 hs1
  by_cases hlt : k < l.length
  · have hlI : (k : Int) < l.length := by omega
    have hw := wrapN (k := k) (by omega)
    obtain ⟨x, hx⟩ := hrow.out k hlt
    have hg2 : ∀ h, RG[k]'h = x.row := fun h => by rw [List.getElem?_eq_getElem h] at hx; exact Option.some.inj hx
    have hE := eqL_refl x
    obtain ⟨x0, x1, x2, x3⟩ := x
    simp only [D4.row] at hx hg2 hE
    repeat' (first
      | ((with_reducible first | apply Wo_u | apply Wo_n | apply ex2 | apply W_sc | apply W_c | apply Wd_u | apply Wd_n | apply ex4 | apply EndQ_ret | apply EndQ_normal); (conv => lhs; simp -implicitDefEqProofs [*]) <;> exact rfl)
      | (with_reducible first | apply Wo_nil | apply W_ss | apply W_srl | apply W_rl | apply W_sblock | apply W_block | apply W_sskip | apply W_skip | apply W_sret | apply W_ret | apply W_sexit | apply W_exit | apply thenW_n | apply thenW_r | apply thenW_e | apply inB_n | apply inB_r | apply inB_e)
      | ((with_reducible apply Wo_gt); (exact rfl); ((conv => lhs; simp -implicitDefEqProofs [*]) <;> exact rfl); (conv => lhs; simp -implicitDefEqProofs [*]) <;> exact rfl)
      | ((with_reducible apply Wo_gf); (exact rfl); ((conv => lhs; simp -implicitDefEqProofs [*]) <;> exact rfl); (exact rfl))
      | ((with_reducible apply Wo_gx); (exact rfl); ((conv => lhs; simp -implicitDefEqProofs [*]) <;> exact rfl))
      | ((with_reducible apply Wo_gsT); (exact rfl); ((conv => lhs; simp -implicitDefEqProofs [*]) <;> exact rfl))
      | ((with_reducible apply Wo_gsF); (exact rfl); ((conv => lhs; simp -implicitDefEqProofs [*]) <;> exact rfl))
      | ((with_reducible apply Wd_gsT); (exact rfl); ((conv => lhs; simp -implicitDefEqProofs [*]) <;> exact rfl))
      | ((with_reducible apply Wd_gsF); (exact rfl); ((conv => lhs; simp -implicitDefEqProofs [*]) <;> exact rfl))
      | ((with_reducible first | apply W_srdl | apply W_rdl); kernel_rfl)
      | ((with_reducible apply Wd_nil); exact rfl)
      | ((with_reducible apply inB_o); rotate_left; exact rfl)
      | (intro h h'; try simp [*, -h] at h'))
    all_goals exact ⟨l.length - (k + 1), by omega, k + 1, rfl, hlt, by simp [*], by simp [*], by simp [*]⟩
  · obtain rfl : k = l.length := by omega
    repeat' (first
      | ((with_reducible first | apply Wo_u | apply Wo_n | apply ex2 | apply W_sc | apply W_c | apply Wd_u | apply Wd_n | apply ex4 | apply EndQ_ret | apply EndQ_normal); (conv => lhs; simp -implicitDefEqProofs [*]) <;> exact rfl)
      | (with_reducible first | apply Wo_nil | apply W_ss | apply W_srl | apply W_rl | apply W_sblock | apply W_block | apply W_sskip | apply W_skip | apply W_sret | apply W_ret | apply W_sexit | apply W_exit | apply thenW_n | apply thenW_r | apply thenW_e | apply inB_n | apply inB_r | apply inB_e)
      | ((with_reducible apply Wo_gt); (exact rfl); ((conv => lhs; simp -implicitDefEqProofs [*]) <;> exact rfl); (conv => lhs; simp -implicitDefEqProofs [*]) <;> exact rfl)
      | ((with_reducible apply Wo_gf); (exact rfl); ((conv => lhs; simp -implicitDefEqProofs [*]) <;> exact rfl); (exact rfl))
      | ((with_reducible apply Wo_gx); (exact rfl); ((conv => lhs; simp -implicitDefEqProofs [*]) <;> exact rfl))
      | ((with_reducible apply Wo_gsT); (exact rfl); ((conv => lhs; simp -implicitDefEqProofs [*]) <;> exact rfl))
      | ((with_reducible apply Wo_gsF); (exact rfl); ((conv => lhs; simp -implicitDefEqProofs [*]) <;> exact rfl))
      | ((with_reducible apply Wd_gsT); (exact rfl); ((conv => lhs; simp -implicitDefEqProofs [*]) <;> exact rfl))
      | ((with_reducible apply Wd_gsF); (exact rfl); ((conv => lhs; simp -implicitDefEqProofs [*]) <;> exact rfl))
      | ((with_reducible first | apply W_srdl | apply W_rdl); kernel_rfl)
      | ((with_reducible apply Wd_nil); exact rfl)
      | ((with_reducible apply inB_o); rotate_left; exact rfl)
      | (intro h h'; try simp [*, -h] at h'))
    all_goals rfl
end Go.Proofs.YtdokejnokhicbaaGreatDoor
