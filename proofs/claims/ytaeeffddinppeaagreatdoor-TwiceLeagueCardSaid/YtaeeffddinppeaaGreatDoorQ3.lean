/- Words as instructions, walked. -/
import Derived.Test.YtaeeffddinppeaaGreatDoorG3
import Derived.Test.YtaeeffddinppeaaGreatDoorQ2
import Derived.Test.YtaeeffddinppeaaGreatDoorQ1
set_option linter.unusedSimpArgs false
set_option linter.unusedVariables false
namespace Go.Proofs.YtaeeffddinppeaaGreatDoor
open Go Go.Ab Go.Ma
abbrev iv (n : Int) : AV := .sc (.int .i64 n)
abbrev bv (b : Bool) : AV := .sc (.bool b)
abbrev uv (n : Int) : AV := .sc (.int .u32 n)
abbrev rowW (l : List Int) : List (List AV) := l.map fun x => [uv x]
abbrev rowB (l : List Int) : List (List AV) := l.map fun x => [.sc (.int .u8 x)]
def toBytes (l : List Int) : List UInt8 := l.map fun x => UInt8.ofNat x.toNat
theorem bytes_rowB : ∀ l : List Int, bytesOfRows (rowB l) = some (toBytes l)
  | [] => rfl
  | x :: l => by
    show (bytesOfRows (rowB l)).map (UInt8.ofNat x.toNat :: ·) = _
    rw [bytes_rowB l]; rfl
def E00 : Cfg := ⟨fun _ => false, fun f => f == 211 || f == 212 || f == 213 || f == 285 || f == 286 || f == 287 || f == 363 || f == 399 || f == 400 || f == 401, fun _ => false⟩
@[simp] theorem E00_hp (f : Nat) : E00.hp f = (f == 211 || f == 212 || f == 213 || f == 285 || f == 286 || f == 287 || f == 363 || f == 399 || f == 400 || f == 401) := rfl
@[simp] theorem E00_eq (f : Nat) : E00.eq f = false := rfl
@[simp] theorem E00_yl (f : Nat) : E00.yl f = false := rfl
def E0y (l : Nat) : Cfg := ⟨E00.eq, E00.hp, fun l' => l' == l⟩
@[simp] theorem E0y_hp (l f : Nat) : (E0y l).hp f = (f == 211 || f == 212 || f == 213 || f == 285 || f == 286 || f == 287 || f == 363 || f == 399 || f == 400 || f == 401) := rfl
@[simp] theorem E0y_eq (l f : Nat) : (E0y l).eq f = false := rfl
@[simp] theorem E0y_yl (l l' : Nat) : (E0y l).yl l' = (l' == l) := rfl
def X00 : Orc := ⟨fun _ _ => none, fun _ _ _ _ _ => none⟩
@[simp] theorem wrap_1 : IntKind.i64.wrap 1 = 1 := by decide +kernel
@[simp] theorem wrap_2 : IntKind.i64.wrap 2 = 2 := by decide +kernel
@[simp] theorem wrap_0 : IntKind.i64.wrap 0 = 0 := by decide +kernel
theorem wrapN {k : Nat} (h : k < 9223372036854775807) : IntKind.i64.wrap ((k : Int) + 1) = (k : Int) + 1 := wrap64 (by omega) (by omega)
theorem u32bits : IntKind.u32.bits = 32 := rfl
theorem and_form (x y : Int) : andW x y = (((x % 4294967296).toNat &&& (y % 4294967296).toNat : Nat) : Int) := by unfold andW; simp [BitVec.toNat_ofInt]
theorem or_form (x y : Int) : orW x y = (((x % 4294967296).toNat ||| (y % 4294967296).toNat : Nat) : Int) := by unfold orW; simp [BitVec.toNat_ofInt]
theorem take1 {α : Type} (l : List α) (k : Nat) : (l.drop k).take 1 = (l[k]?).toList := by
  rw [List.take_one, List.head?_drop]
def bxP (code : List Int) (inp : ByteArray) (pc : Int) (rg : List Int) (M : AV) (rd steps en : Int) (o : Bool) (go no : Nat) : List AV :=
  .sl false 1 (rowW code) :: .sc (.string inp) :: iv pc :: (rg.map uv ++ [M, iv rd, .sc (.string ⟨#[]⟩), iv steps, iv en, bv o, .own ⟨0, 13, 26⟩ go no])
section
variable {code : List Int} {inp : ByteArray} {pc : Int} {rg : List Int} {M : AV} {rd steps en : Int} {o : Bool} {go no : Nat}
theorem reg16 (h : rg.length = 16) : ∃ x0 x1 x2 x3 x4 x5 x6 x7 x8 x9 x10 x11 x12 x13 x14 x15, rg = [x0, x1, x2, x3, x4, x5, x6, x7, x8, x9, x10, x11, x12, x13, x14, x15] := by
  match rg, h with
  | [x0, x1, x2, x3, x4, x5, x6, x7, x8, x9, x10, x11, x12, x13, x14, x15], _ => exact ⟨_, _, _, _, _, _, _, _, _, _, _, _, _, _, _, _, rfl⟩
theorem bx_len (h : rg.length = 16) : (bxP code inp pc rg M rd steps en o go no).length = 26 := by simp [bxP, h]
theorem bx_0 : (bxP code inp pc rg M rd steps en o go no)[0]? = some (.sl false 1 (rowW code)) := rfl
theorem bx_1 : (bxP code inp pc rg M rd steps en o go no)[1]? = some (.sc (.string inp)) := rfl
theorem bx_2 : (bxP code inp pc rg M rd steps en o go no)[2]? = some (iv pc) := rfl
theorem bx_19 (h : rg.length = 16) : (bxP code inp pc rg M rd steps en o go no)[19]? = some M := by obtain ⟨_, _, _, _, _, _, _, _, _, _, _, _, _, _, _, _, rfl⟩ := reg16 h; rfl
theorem bx_20 (h : rg.length = 16) : (bxP code inp pc rg M rd steps en o go no)[20]? = some (iv rd) := by obtain ⟨_, _, _, _, _, _, _, _, _, _, _, _, _, _, _, _, rfl⟩ := reg16 h; rfl
theorem bx_21 (h : rg.length = 16) : (bxP code inp pc rg M rd steps en o go no)[21]? = some (.sc (.string ⟨#[]⟩)) := by obtain ⟨_, _, _, _, _, _, _, _, _, _, _, _, _, _, _, _, rfl⟩ := reg16 h; rfl
theorem bx_22 (h : rg.length = 16) : (bxP code inp pc rg M rd steps en o go no)[22]? = some (iv steps) := by obtain ⟨_, _, _, _, _, _, _, _, _, _, _, _, _, _, _, _, rfl⟩ := reg16 h; rfl
theorem bx_23 (h : rg.length = 16) : (bxP code inp pc rg M rd steps en o go no)[23]? = some (iv en) := by obtain ⟨_, _, _, _, _, _, _, _, _, _, _, _, _, _, _, _, rfl⟩ := reg16 h; rfl
theorem bx_24 (h : rg.length = 16) : (bxP code inp pc rg M rd steps en o go no)[24]? = some (bv o) := by obtain ⟨_, _, _, _, _, _, _, _, _, _, _, _, _, _, _, _, rfl⟩ := reg16 h; rfl
theorem bx_25 (h : rg.length = 16) : (bxP code inp pc rg M rd steps en o go no)[25]? = some (.own ⟨0, 13, 26⟩ go no) := by obtain ⟨_, _, _, _, _, _, _, _, _, _, _, _, _, _, _, _, rfl⟩ := reg16 h; rfl
theorem bx_reg {a : Nat} (h : rg.length = 16) (ha : a < 16) : (bxP code inp pc rg M rd steps en o go no)[3 + a]? = (rg[a]?).map uv := by
  unfold bxP
  rw [show 3 + a = a + 1 + 1 + 1 from by omega, List.getElem?_cons_succ, List.getElem?_cons_succ, List.getElem?_cons_succ, List.getElem?_append_left (by simpa [h] using ha), List.getElem?_map]
theorem bs_2 (x : Int) : (bxP code inp pc rg M rd steps en o go no).set 2 (iv x) = bxP code inp x rg M rd steps en o go no := rfl
theorem bs_19 (h : rg.length = 16) (x : AV) : (bxP code inp pc rg M rd steps en o go no).set 19 x = bxP code inp pc rg x rd steps en o go no := by obtain ⟨_, _, _, _, _, _, _, _, _, _, _, _, _, _, _, _, rfl⟩ := reg16 h; rfl
theorem bs_20 (h : rg.length = 16) (x : Int) : (bxP code inp pc rg M rd steps en o go no).set 20 (iv x) = bxP code inp pc rg M x steps en o go no := by obtain ⟨_, _, _, _, _, _, _, _, _, _, _, _, _, _, _, _, rfl⟩ := reg16 h; rfl
theorem bs_22 (h : rg.length = 16) (x : Int) : (bxP code inp pc rg M rd steps en o go no).set 22 (iv x) = bxP code inp pc rg M rd x en o go no := by obtain ⟨_, _, _, _, _, _, _, _, _, _, _, _, _, _, _, _, rfl⟩ := reg16 h; rfl
theorem bs_23 (h : rg.length = 16) (x : Int) : (bxP code inp pc rg M rd steps en o go no).set 23 (iv x) = bxP code inp pc rg M rd steps x o go no := by obtain ⟨_, _, _, _, _, _, _, _, _, _, _, _, _, _, _, _, rfl⟩ := reg16 h; rfl
theorem bs_24 (h : rg.length = 16) (x : Bool) : (bxP code inp pc rg M rd steps en o go no).set 24 (bv x) = bxP code inp pc rg M rd steps en x go no := by obtain ⟨_, _, _, _, _, _, _, _, _, _, _, _, _, _, _, _, rfl⟩ := reg16 h; rfl
theorem bs_25 (h : rg.length = 16) (g n : Nat) : (bxP code inp pc rg M rd steps en o go no).set 25 (.own ⟨0, 13, 26⟩ g n) = bxP code inp pc rg M rd steps en o g n := by obtain ⟨_, _, _, _, _, _, _, _, _, _, _, _, _, _, _, _, rfl⟩ := reg16 h; rfl
theorem bs_reg {a : Nat} (h : rg.length = 16) (ha : a < 16) (x : Int) : (bxP code inp pc rg M rd steps en o go no).set (3 + a) (uv x) = bxP code inp pc (rg.set a x) M rd steps en o go no := by
  unfold bxP
  rw [show 3 + a = a + 1 + 1 + 1 from by omega, List.set_cons_succ, List.set_cons_succ, List.set_cons_succ, List.set_append_left _ _ (by simpa [h] using ha), List.map_set]
end
def memA (o : Bool) (gm : Nat) (mem : List Int) : AV := if o then .own ⟨0, 13, 20⟩ gm mem.length else .sl false 1 (rowW mem)
structure Mst (code : List Int) (inp : ByteArray) (s : PS) (go gm : Nat) (hp : Hp) : Prop where
  bx : hp ⟨0, 13, 0⟩ = .box 1 (bxP code inp s.pc s.rg (memA s.own gm s.mem) s.rd s.steps s.en s.own go s.out.length) false
  out : hp ⟨0, 13, 26⟩ = .arr go 1 5 (rowB s.out) false
  mem : s.own = true → hp ⟨0, 13, 20⟩ = .arr gm 1 32 (rowW s.mem) false
def inpF (s : ByteArray) : Inp := fun k => (s.data[k]?).map fun b => (b.toNat : Int)
end Go.Proofs.YtaeeffddinppeaaGreatDoor

namespace Go.Proofs.YtaeeffddinppeaaGreatDoor
open Go Go.Ab Go.Ma
section
variable {P : Program} {E : Cfg} {k : Nat} {call : Orc} {all : Array Oper} {os : List Oper} {fr : Nat → AV} {hp : Hp} {Q : AS → Prop} {d d' j : Nat} {op : Op} {ty : TypeId} {pos : String} {aft : Array Edge} {b : Bool} {fs : List Foot}
theorem Wd_gx {us : List Value} (hd : (all[j]?).bind (·.dst) = some d') (hc : fr d' = .sc (.tuple ⟨us⟩)) (r : Wd P E k call all os ⟨setd fr (some d) (.sc undef), hp⟩ (⟨[], []⟩ :: fs) Q) : Wd P E k call all (⟨some d, op, ty, pos, aft, some (j, b)⟩ :: os) ⟨fr, hp⟩ fs Q := by
  obtain ⟨st', fs', h1, h2⟩ := r
  exact ⟨st', fs', by simp only [runDraw, stepF, guardA, hd, hc]; exact h1, h2⟩
end
theorem beq_dec (v w : Int) : (v == w) = decide (v = w) := by by_cases h : v = w <;> simp [h]
theorem bne_dec (v w : Int) : (v != w) = decide (v ≠ w) := by by_cases h : v = w <;> simp [h]
def shOk (n : Nat) : Option (List AV) → Bool
  | some [.agg [.sc (.string s), .sc (.bool a), .sc (.bool b), .sc (.int .i64 c)]] => (decide (s ≠ ⟨#[]⟩) == (decide (1 ≤ n) && decide (n ≤ 27))) && (a == hasA n) && (b == hasB n) && decide (c = (kC n : Int))
  | _ => false
theorem shape_all : (List.range 256).all (fun n => shOk n ((evCall Tryz.prog E00 X00 300).dat 176 [iv n])) = true := by kernel_rfl
theorem m176 (n : Nat) (h : n < 256) : ∃ s, (lim Tryz.prog E00 X00).dat 176 [iv n] = some [.agg [.sc (.string s), bv (hasA n), bv (hasB n), iv (kC n)]] ∧ decide (s = ⟨#[]⟩) = !(decide (1 ≤ n) && decide (n ≤ 27)) := by
  have h1 := List.all_eq_true.1 shape_all n (List.mem_range.2 h)
  generalize hr : (evCall Tryz.prog E00 X00 300).dat 176 [iv n] = r at h1
  unfold shOk at h1
  split at h1
  · rename_i s a b c
    simp only [Bool.and_eq_true, beq_iff_eq, decide_eq_true_eq] at h1
    obtain ⟨⟨⟨h2, h3⟩, h4⟩, h5⟩ := h1
    subst h3 h4 h5
    refine ⟨s, lim_dat.2 ⟨300, hr⟩, ?_⟩
    rw [← h2]
    by_cases e : s = ⟨#[]⟩ <;> simp [e]
  · cases h1
set_option maxHeartbeats 1000000 in
theorem m177 (v m : Int) (n : Bool)  : (lim Tryz.prog E00 X00).dat 177 [iv v, iv m, bv n] = some [bv (wi n v m)] := by
  refine fnW Tryz.func177 rfl rfl bodyOk_177 rfl rtys_177 rfl ?_
  unfold wi
  cases n
  all_goals
      repeat' (first
        | ((with_reducible first | apply Wo_u | apply Wo_n | apply ex2 | apply W_sc | apply W_c | apply Wd_u | apply Wd_n | apply ex4 | apply EndQ_ret | apply EndQ_normal); (conv => lhs; simp -implicitDefEqProofs [*]) <;> exact rfl)
        | (with_reducible first | apply Wo_nil | apply W_ss | apply W_srl | apply W_rl | apply W_sblock | apply W_block | apply W_sskip | apply W_skip | apply W_sret | apply W_ret | apply W_sexit | apply W_exit | apply thenW_n | apply thenW_r | apply thenW_e | apply inB_n | apply inB_r | apply inB_e)
        | ((with_reducible apply Wo_gt); (exact rfl); ((conv => lhs; simp -implicitDefEqProofs [*]) <;> exact rfl); (conv => lhs; simp -implicitDefEqProofs [*]) <;> exact rfl)
        | ((with_reducible apply Wo_gf); (exact rfl); ((conv => lhs; simp -implicitDefEqProofs [*]) <;> exact rfl); (exact rfl))
        | ((with_reducible apply Wo_gx); (exact rfl); ((conv => lhs; simp -implicitDefEqProofs [*]) <;> exact rfl))
        | ((with_reducible apply Wo_gsT); (exact rfl); ((conv => lhs; simp -implicitDefEqProofs [*]) <;> exact rfl))
        | ((with_reducible apply Wo_gsF); (exact rfl); ((conv => lhs; simp -implicitDefEqProofs [*]) <;> exact rfl))
        | ((with_reducible apply Wd_gsT); (exact rfl); ((conv => lhs; simp -implicitDefEqProofs [*]) <;> exact rfl))
        | ((with_reducible apply Wd_gsF); (exact rfl); ((conv => lhs; simp -implicitDefEqProofs [*]) <;> exact rfl))
        | ((with_reducible first | apply W_srdl | apply W_rdl); kernel_rfl)
        | ((with_reducible apply Wd_nil); kernel_rfl)
        | ((with_reducible apply inB_o); rotate_left; exact rfl)
        | (intro h h'; try simp [*, -h] at h')
        | ((with_reducible apply Wd_gx); (exact rfl); ((conv => lhs; simp -implicitDefEqProofs [*]) <;> exact rfl)))
  all_goals (try simp [*, beq_dec])
set_option maxHeartbeats 1000000 in
theorem m175 (n : Nat) (h : n < 256)  : (lim Tryz.prog E00 X00).dat 175 [iv n] = some [bv (decide (1 ≤ n) && decide (n ≤ 27))] := by
  refine fnW Tryz.func175 rfl rfl bodyOk_175 rfl rtys_175 rfl ?_
  obtain ⟨s, hs, hq⟩ := m176 n h
  generalize (decide (1 ≤ n) && decide (n ≤ 27)) = kn at *
  repeat' (first
    | ((with_reducible first | apply Wo_u | apply Wo_n | apply ex2 | apply W_sc | apply W_c | apply Wd_u | apply Wd_n | apply ex4 | apply EndQ_ret | apply EndQ_normal); (conv => lhs; simp -implicitDefEqProofs [*]) <;> exact rfl)
    | (with_reducible first | apply Wo_nil | apply W_ss | apply W_srl | apply W_rl | apply W_sblock | apply W_block | apply W_sskip | apply W_skip | apply W_sret | apply W_ret | apply W_sexit | apply W_exit | apply thenW_n | apply thenW_r | apply thenW_e | apply inB_n | apply inB_r | apply inB_e)
    | ((with_reducible apply Wo_gt); (exact rfl); ((conv => lhs; simp -implicitDefEqProofs [*]) <;> exact rfl); (conv => lhs; simp -implicitDefEqProofs [*]) <;> exact rfl)
    | ((with_reducible apply Wo_gf); (exact rfl); ((conv => lhs; simp -implicitDefEqProofs [*]) <;> exact rfl); (exact rfl))
    | ((with_reducible apply Wo_gx); (exact rfl); ((conv => lhs; simp -implicitDefEqProofs [*]) <;> exact rfl))
    | ((with_reducible apply Wo_gsT); (exact rfl); ((conv => lhs; simp -implicitDefEqProofs [*]) <;> exact rfl))
    | ((with_reducible apply Wo_gsF); (exact rfl); ((conv => lhs; simp -implicitDefEqProofs [*]) <;> exact rfl))
    | ((with_reducible apply Wd_gsT); (exact rfl); ((conv => lhs; simp -implicitDefEqProofs [*]) <;> exact rfl))
    | ((with_reducible apply Wd_gsF); (exact rfl); ((conv => lhs; simp -implicitDefEqProofs [*]) <;> exact rfl))
    | ((with_reducible first | apply W_srdl | apply W_rdl); kernel_rfl)
    | ((with_reducible apply Wd_nil); kernel_rfl)
    | ((with_reducible apply inB_o); rotate_left; exact rfl)
    | (intro h h'; try simp [*, -h] at h')
    | ((with_reducible apply Wd_gx); (exact rfl); ((conv => lhs; simp -implicitDefEqProofs [*]) <;> exact rfl)))
  all_goals simp [hq]
theorem rightI_eq (n a b c : Nat) : rightI ⟨n, a, b, c⟩ = ((decide (1 ≤ n) && decide (n ≤ 27)) && wi (hasA n) a 15 && wi (hasB n) b 15 && wi (decide ((kC n : Int) ≠ 0)) c (if (kC n : Int) = 2 then 15 else 65535)) := by
  have e1 : decide (1 ≤ (n : Int)) = decide (1 ≤ n) := decide_eq_decide.2 (by omega)
  have e2 : decide ((n : Int) ≤ 27) = decide (n ≤ 27) := decide_eq_decide.2 (by omega)
  have e3 : decide (kC (n : Int) ≠ 0) = decide ((kC n : Int) ≠ 0) := decide_eq_decide.2 (by omega)
  have e4 : (if kC (n : Int) = 2 then (15 : Int) else 65535) = if (kC n : Int) = 2 then 15 else 65535 := by
    by_cases h : kC (n : Int) = 2
    · rw [if_pos h, if_pos (by omega)]
    · rw [if_neg h, if_neg (by omega)]
  unfold rightI
  simp only [e1, e2, e3, e4]
set_option maxHeartbeats 4000000 in
theorem m132 (n a b c : Nat) (h : n < 256)  : (lim Tryz.prog E00 X00).dat 132 [.agg [iv n, iv a, iv b, iv c]] = some [bv (rightI ⟨n, a, b, c⟩)] := by
  refine fnW Tryz.func132 rfl rfl bodyOk_132 rfl rtys_132 rfl ?_
  obtain ⟨s, hs, hq⟩ := m176 n h
  have h175 := m175 n h
  have ha := m177 a 15 (hasA n)
  have hb := m177 b 15 (hasB n)
  have hc1 := m177 c 65535 (decide ((kC n : Int) ≠ 0))
  have hc2 := m177 c 15 (decide ((kC n : Int) ≠ 0))
  rw [rightI_eq]
  have hkb := bne_dec (kC n : Int) 0
  generalize (decide (1 ≤ n) && decide (n ≤ 27)) = kn at *
  generalize hasA n = xa at *
  generalize hasB n = xb at *
  generalize (kC n : Int) = kc at *
  by_cases h2 : kc = 2
  all_goals
    generalize decide (kc ≠ 0) = k0 at *
    simp only [h2, if_true, if_false]
    generalize wi xa a 15 = wa at *
    generalize wi xb b 15 = wb at *
    generalize wi k0 c 15 = wc1 at *
    generalize wi k0 c 65535 = wc2 at *
    try (subst h2; obtain rfl : k0 = true := by simpa using hkb.symm)
    repeat' (first
      | ((with_reducible first | apply Wo_u | apply Wo_n | apply ex2 | apply W_sc | apply W_c | apply Wd_u | apply Wd_n | apply ex4 | apply EndQ_ret | apply EndQ_normal); (conv => lhs; simp -implicitDefEqProofs [*]) <;> exact rfl)
      | (with_reducible first | apply Wo_nil | apply W_ss | apply W_srl | apply W_rl | apply W_sblock | apply W_block | apply W_sskip | apply W_skip | apply W_sret | apply W_ret | apply W_sexit | apply W_exit | apply thenW_n | apply thenW_r | apply thenW_e | apply inB_n | apply inB_r | apply inB_e)
      | ((with_reducible apply Wo_gt); (exact rfl); ((conv => lhs; simp -implicitDefEqProofs [*]) <;> exact rfl); (conv => lhs; simp -implicitDefEqProofs [*]) <;> exact rfl)
      | ((with_reducible apply Wo_gf); (exact rfl); ((conv => lhs; simp -implicitDefEqProofs [*]) <;> exact rfl); (exact rfl))
      | ((with_reducible apply Wo_gx); (exact rfl); ((conv => lhs; simp -implicitDefEqProofs [*]) <;> exact rfl))
      | ((with_reducible apply Wo_gsT); (exact rfl); ((conv => lhs; simp -implicitDefEqProofs [*]) <;> exact rfl))
      | ((with_reducible apply Wo_gsF); (exact rfl); ((conv => lhs; simp -implicitDefEqProofs [*]) <;> exact rfl))
      | ((with_reducible apply Wd_gsT); (exact rfl); ((conv => lhs; simp -implicitDefEqProofs [*]) <;> exact rfl))
      | ((with_reducible apply Wd_gsF); (exact rfl); ((conv => lhs; simp -implicitDefEqProofs [*]) <;> exact rfl))
      | ((with_reducible first | apply W_srdl | apply W_rdl); kernel_rfl)
      | ((with_reducible apply Wd_nil); kernel_rfl)
      | ((with_reducible apply inB_o); rotate_left; exact rfl)
      | (intro h h'; try simp [*, -h] at h')
      | ((with_reducible apply Wd_gx); (exact rfl); ((conv => lhs; simp -implicitDefEqProofs [*]) <;> exact rfl)))
  all_goals simp [*]
def decP (w : Int) : List AV := if rightI (insW w) then [iv (insW w).op, iv (insW w).a, iv (insW w).b, iv (insW w).c] else [iv 0, iv 0, iv 0, iv 0]
theorem U_and {x : Int} (h : Ma.U x) : IntKind.u32.wrap (andW x 15) = x % 16 ∧ IntKind.u32.wrap (andW x 65535) = x % 65536 := by
  rw [andW_15 h, andW_65535 h]
  unfold Ma.U at h
  exact ⟨by rw [IntKind.wrap_u32]; omega, by rw [IntKind.wrap_u32]; omega⟩
end Go.Proofs.YtaeeffddinppeaaGreatDoor
