/- A part of the proof: Kf, Kg, Kh, Ki, Kj, Kk, Kl. -/
import Derived.Test.YtaeeffddinppeaaGreatDoorR23
set_option linter.unusedSimpArgs false
set_option linter.unusedVariables false
namespace Go.Proofs.YtaeeffddinppeaaGreatDoor
open Go Go.Ab
structure Ins where
  (op a b c : Int)
@[simp] def Ins.row (i : Ins) : List AV := [iv i.op, iv i.a, iv i.b, iv i.c]
def Ins.enc (i : Ins) : Int := i.op * 16777216 + i.a * 1048576 + i.b * 65536 + i.c
def mI (N : Int) : List Ins := [⟨1, 1, 0, 83⟩, ⟨24, 1, 0, 0⟩, ⟨1, 1, 0, 69⟩, ⟨24, 1, 0, 0⟩, ⟨24, 1, 0, 0⟩, ⟨1, 1, 0, 68⟩, ⟨24, 1, 0, 0⟩, ⟨1, 8, 0, 8⟩, ⟨1, 7, 0, 1⟩, ⟨1, 4, 0, N⟩, ⟨3, 2, 4, 0⟩, ⟨21, 15, 0, 19⟩, ⟨21, 15, 0, 19⟩, ⟨27, 2, 3, 0⟩, ⟨21, 15, 0, 19⟩, ⟨4, 3, 3, 7⟩, ⟨14, 5, 3, 4⟩, ⟨20, 5, 0, 13⟩, ⟨26, 0, 0, 0⟩, ⟨24, 2, 0, 0⟩, ⟨13, 2, 2, 8⟩, ⟨24, 2, 0, 0⟩, ⟨13, 2, 2, 8⟩, ⟨24, 2, 0, 0⟩, ⟨13, 2, 2, 8⟩, ⟨24, 2, 0, 0⟩, ⟨13, 2, 2, 8⟩, ⟨22, 15, 0, 0⟩]
def mcode (N : Int) : List Int := (mI N).map Ins.enc
end Go.Proofs.YtaeeffddinppeaaGreatDoor
namespace Go.Proofs.YtaeeffddinppeaaGreatDoor
open Go Go.Ab
def encs (l : List Ins) : List Int := l.map Ins.enc
@[simp] theorem encs_len (l : List Ins) : (encs l).length = l.length := List.length_map ..
@[simp] theorem encs_nil : encs [] = [] := rfl
theorem mcode_len (n : Int) : (mcode n).length = 28 := by simp [mcode, mI]
def mirC (l : List Int) : List Int := mcode ((28 + l.length : Nat) : Int) ++ l
theorem mirC_len (l : List Int) : (mirC l).length = 28 + l.length := by simp [mirC, mcode_len]
end Go.Proofs.YtaeeffddinppeaaGreatDoor
namespace Go.Proofs.YtaeeffddinppeaaGreatDoor
open Go Go.Ab
def hf (w : Int) : Nat → Int
  | 0 => w
  | k + 1 => hf w k / 2
end Go.Proofs.YtaeeffddinppeaaGreatDoor
namespace Go.Proofs.YtaeeffddinppeaaGreatDoor
open Go Go.Ab
def partsOf (op : Int) : ByteArray :=
  if op = 1 ∨ op = 2 ∨ op = 19 ∨ op = 20 ∨ op = 21 ∨ op = 25 then ⟨#[97, 99]⟩
  else if op = 3 then ⟨#[97, 98]⟩
  else if op = 16 ∨ op = 17 ∨ op = 27 then ⟨#[97, 98, 99]⟩
  else if op = 18 then ⟨#[99]⟩
  else if op = 22 ∨ op = 23 ∨ op = 24 then ⟨#[97]⟩
  else if op = 26 then ⟨#[]⟩
  else if op = 4 ∨ op = 5 ∨ op = 6 ∨ op = 7 ∨ op = 8 ∨ op = 9 ∨ op = 10 ∨ op = 11 ∨ op = 12 ∨ op = 13 ∨ op = 14 ∨ op = 15 then ⟨#[97, 98, 114]⟩
  else ⟨#[63]⟩
theorem d52_0 : (lim Tryz.prog E47 X47).dat 158 [iv 0] = some [.sc (.string ⟨#[63]⟩)] := lim_dat.2 ⟨100, by kernel_rfl⟩
theorem d52_1 : (lim Tryz.prog E47 X47).dat 158 [iv 1] = some [.sc (.string ⟨#[97, 99]⟩)] := lim_dat.2 ⟨100, by kernel_rfl⟩
theorem d52_2 : (lim Tryz.prog E47 X47).dat 158 [iv 2] = some [.sc (.string ⟨#[97, 99]⟩)] := lim_dat.2 ⟨100, by kernel_rfl⟩
theorem d52_3 : (lim Tryz.prog E47 X47).dat 158 [iv 3] = some [.sc (.string ⟨#[97, 98]⟩)] := lim_dat.2 ⟨100, by kernel_rfl⟩
theorem d52_4 : (lim Tryz.prog E47 X47).dat 158 [iv 4] = some [.sc (.string ⟨#[97, 98, 114]⟩)] := lim_dat.2 ⟨100, by kernel_rfl⟩
theorem d52_5 : (lim Tryz.prog E47 X47).dat 158 [iv 5] = some [.sc (.string ⟨#[97, 98, 114]⟩)] := lim_dat.2 ⟨100, by kernel_rfl⟩
theorem d52_6 : (lim Tryz.prog E47 X47).dat 158 [iv 6] = some [.sc (.string ⟨#[97, 98, 114]⟩)] := lim_dat.2 ⟨100, by kernel_rfl⟩
theorem d52_7 : (lim Tryz.prog E47 X47).dat 158 [iv 7] = some [.sc (.string ⟨#[97, 98, 114]⟩)] := lim_dat.2 ⟨100, by kernel_rfl⟩
theorem d52_8 : (lim Tryz.prog E47 X47).dat 158 [iv 8] = some [.sc (.string ⟨#[97, 98, 114]⟩)] := lim_dat.2 ⟨100, by kernel_rfl⟩
theorem d52_9 : (lim Tryz.prog E47 X47).dat 158 [iv 9] = some [.sc (.string ⟨#[97, 98, 114]⟩)] := lim_dat.2 ⟨100, by kernel_rfl⟩
theorem d52_10 : (lim Tryz.prog E47 X47).dat 158 [iv 10] = some [.sc (.string ⟨#[97, 98, 114]⟩)] := lim_dat.2 ⟨100, by kernel_rfl⟩
theorem d52_11 : (lim Tryz.prog E47 X47).dat 158 [iv 11] = some [.sc (.string ⟨#[97, 98, 114]⟩)] := lim_dat.2 ⟨100, by kernel_rfl⟩
theorem d52_12 : (lim Tryz.prog E47 X47).dat 158 [iv 12] = some [.sc (.string ⟨#[97, 98, 114]⟩)] := lim_dat.2 ⟨100, by kernel_rfl⟩
theorem d52_13 : (lim Tryz.prog E47 X47).dat 158 [iv 13] = some [.sc (.string ⟨#[97, 98, 114]⟩)] := lim_dat.2 ⟨100, by kernel_rfl⟩
theorem d52_14 : (lim Tryz.prog E47 X47).dat 158 [iv 14] = some [.sc (.string ⟨#[97, 98, 114]⟩)] := lim_dat.2 ⟨100, by kernel_rfl⟩
theorem d52_15 : (lim Tryz.prog E47 X47).dat 158 [iv 15] = some [.sc (.string ⟨#[97, 98, 114]⟩)] := lim_dat.2 ⟨100, by kernel_rfl⟩
theorem d52_16 : (lim Tryz.prog E47 X47).dat 158 [iv 16] = some [.sc (.string ⟨#[97, 98, 99]⟩)] := lim_dat.2 ⟨100, by kernel_rfl⟩
theorem d52_17 : (lim Tryz.prog E47 X47).dat 158 [iv 17] = some [.sc (.string ⟨#[97, 98, 99]⟩)] := lim_dat.2 ⟨100, by kernel_rfl⟩
theorem d52_18 : (lim Tryz.prog E47 X47).dat 158 [iv 18] = some [.sc (.string ⟨#[99]⟩)] := lim_dat.2 ⟨100, by kernel_rfl⟩
theorem d52_19 : (lim Tryz.prog E47 X47).dat 158 [iv 19] = some [.sc (.string ⟨#[97, 99]⟩)] := lim_dat.2 ⟨100, by kernel_rfl⟩
theorem d52_20 : (lim Tryz.prog E47 X47).dat 158 [iv 20] = some [.sc (.string ⟨#[97, 99]⟩)] := lim_dat.2 ⟨100, by kernel_rfl⟩
theorem d52_21 : (lim Tryz.prog E47 X47).dat 158 [iv 21] = some [.sc (.string ⟨#[97, 99]⟩)] := lim_dat.2 ⟨100, by kernel_rfl⟩
theorem d52_22 : (lim Tryz.prog E47 X47).dat 158 [iv 22] = some [.sc (.string ⟨#[97]⟩)] := lim_dat.2 ⟨100, by kernel_rfl⟩
theorem d52_23 : (lim Tryz.prog E47 X47).dat 158 [iv 23] = some [.sc (.string ⟨#[97]⟩)] := lim_dat.2 ⟨100, by kernel_rfl⟩
theorem d52_24 : (lim Tryz.prog E47 X47).dat 158 [iv 24] = some [.sc (.string ⟨#[97]⟩)] := lim_dat.2 ⟨100, by kernel_rfl⟩
theorem d52_25 : (lim Tryz.prog E47 X47).dat 158 [iv 25] = some [.sc (.string ⟨#[97, 99]⟩)] := lim_dat.2 ⟨100, by kernel_rfl⟩
theorem d52_26 : (lim Tryz.prog E47 X47).dat 158 [iv 26] = some [.sc (.string ⟨#[]⟩)] := lim_dat.2 ⟨100, by kernel_rfl⟩
theorem d52_27 : (lim Tryz.prog E47 X47).dat 158 [iv 27] = some [.sc (.string ⟨#[97, 98, 99]⟩)] := lim_dat.2 ⟨100, by kernel_rfl⟩
set_option maxHeartbeats 4000000 in
theorem d52_x (op : Int) (h : 27 < op) : (lim Tryz.prog E47 X47).dat 158 [iv op] = some [.sc (.string ⟨#[63]⟩)] := by
  refine fnW Tryz.func158 rfl rfl bodyOk_158 rfl rtys_158 rfl ?_
  have n0 : ¬ op ≤ 15 := by omega
  have n1 : ¬ op = 1 := by omega
  have n2 : ¬ op = 2 := by omega
  have n3 : ¬ op = 3 := by omega
  have n4 : ¬ op = 4 := by omega
  have n5 : ¬ op = 5 := by omega
  have n6 : ¬ op = 6 := by omega
  have n7 : ¬ op = 7 := by omega
  have n8 : ¬ op = 8 := by omega
  have n9 : ¬ op = 9 := by omega
  have n10 : ¬ op = 10 := by omega
  have n11 : ¬ op = 11 := by omega
  have n12 : ¬ op = 12 := by omega
  have n13 : ¬ op = 13 := by omega
  have n14 : ¬ op = 14 := by omega
  have n15 : ¬ op = 15 := by omega
  have n16 : ¬ op = 16 := by omega
  have n17 : ¬ op = 17 := by omega
  have n18 : ¬ op = 18 := by omega
  have n19 : ¬ op = 19 := by omega
  have n20 : ¬ op = 20 := by omega
  have n21 : ¬ op = 21 := by omega
  have n22 : ¬ op = 22 := by omega
  have n23 : ¬ op = 23 := by omega
  have n24 : ¬ op = 24 := by omega
  have n25 : ¬ op = 25 := by omega
  have n26 : ¬ op = 26 := by omega
  have n27 : ¬ op = 27 := by omega
  exact step7
theorem d52 (op : Int) (h : 0 ≤ op) : (lim Tryz.prog E47 X47).dat 158 [iv op] = some [.sc (.string (partsOf op))] := by
  by_cases hx : 27 < op
  · rw [d52_x op hx]
    unfold partsOf
    rw [if_neg (by omega), if_neg (by omega), if_neg (by omega), if_neg (by omega), if_neg (by omega), if_neg (by omega), if_neg (by omega)]
  have : op = 0 ∨ op = 1 ∨ op = 2 ∨ op = 3 ∨ op = 4 ∨ op = 5 ∨ op = 6 ∨ op = 7 ∨ op = 8 ∨ op = 9 ∨ op = 10 ∨ op = 11 ∨ op = 12 ∨ op = 13 ∨ op = 14 ∨ op = 15 ∨ op = 16 ∨ op = 17 ∨ op = 18 ∨ op = 19 ∨ op = 20 ∨ op = 21 ∨ op = 22 ∨ op = 23 ∨ op = 24 ∨ op = 25 ∨ op = 26 ∨ op = 27 := by omega
  rcases this with rfl | rfl | rfl | rfl | rfl | rfl | rfl | rfl | rfl | rfl | rfl | rfl | rfl | rfl | rfl | rfl | rfl | rfl | rfl | rfl | rfl | rfl | rfl | rfl | rfl | rfl | rfl | rfl
  · rw [d52_0]; rfl
  · rw [d52_1]; rfl
  · rw [d52_2]; rfl
  · rw [d52_3]; rfl
  · rw [d52_4]; rfl
  · rw [d52_5]; rfl
  · rw [d52_6]; rfl
  · rw [d52_7]; rfl
  · rw [d52_8]; rfl
  · rw [d52_9]; rfl
  · rw [d52_10]; rfl
  · rw [d52_11]; rfl
  · rw [d52_12]; rfl
  · rw [d52_13]; rfl
  · rw [d52_14]; rfl
  · rw [d52_15]; rfl
  · rw [d52_16]; rfl
  · rw [d52_17]; rfl
  · rw [d52_18]; rfl
  · rw [d52_19]; rfl
  · rw [d52_20]; rfl
  · rw [d52_21]; rfl
  · rw [d52_22]; rfl
  · rw [d52_23]; rfl
  · rw [d52_24]; rfl
  · rw [d52_25]; rfl
  · rw [d52_26]; rfl
  · rw [d52_27]; rfl
theorem d53_ac_a : (lim Tryz.prog E47 X47).dat 159 [.sc (.string ⟨#[97, 99]⟩), .sc (.int .u8 97)] = some [bv true] := lim_dat.2 ⟨100, by kernel_rfl⟩
theorem d53_ac_b : (lim Tryz.prog E47 X47).dat 159 [.sc (.string ⟨#[97, 99]⟩), .sc (.int .u8 98)] = some [bv false] := lim_dat.2 ⟨100, by kernel_rfl⟩
theorem d53_ac_c : (lim Tryz.prog E47 X47).dat 159 [.sc (.string ⟨#[97, 99]⟩), .sc (.int .u8 99)] = some [bv true] := lim_dat.2 ⟨100, by kernel_rfl⟩
theorem d53_ac_r : (lim Tryz.prog E47 X47).dat 159 [.sc (.string ⟨#[97, 99]⟩), .sc (.int .u8 114)] = some [bv false] := lim_dat.2 ⟨100, by kernel_rfl⟩
theorem d53_ab_a : (lim Tryz.prog E47 X47).dat 159 [.sc (.string ⟨#[97, 98]⟩), .sc (.int .u8 97)] = some [bv true] := lim_dat.2 ⟨100, by kernel_rfl⟩
theorem d53_ab_b : (lim Tryz.prog E47 X47).dat 159 [.sc (.string ⟨#[97, 98]⟩), .sc (.int .u8 98)] = some [bv true] := lim_dat.2 ⟨100, by kernel_rfl⟩
theorem d53_ab_c : (lim Tryz.prog E47 X47).dat 159 [.sc (.string ⟨#[97, 98]⟩), .sc (.int .u8 99)] = some [bv false] := lim_dat.2 ⟨100, by kernel_rfl⟩
theorem d53_ab_r : (lim Tryz.prog E47 X47).dat 159 [.sc (.string ⟨#[97, 98]⟩), .sc (.int .u8 114)] = some [bv false] := lim_dat.2 ⟨100, by kernel_rfl⟩
theorem d53_abc_a : (lim Tryz.prog E47 X47).dat 159 [.sc (.string ⟨#[97, 98, 99]⟩), .sc (.int .u8 97)] = some [bv true] := lim_dat.2 ⟨100, by kernel_rfl⟩
theorem d53_abc_b : (lim Tryz.prog E47 X47).dat 159 [.sc (.string ⟨#[97, 98, 99]⟩), .sc (.int .u8 98)] = some [bv true] := lim_dat.2 ⟨100, by kernel_rfl⟩
theorem d53_abc_c : (lim Tryz.prog E47 X47).dat 159 [.sc (.string ⟨#[97, 98, 99]⟩), .sc (.int .u8 99)] = some [bv true] := lim_dat.2 ⟨100, by kernel_rfl⟩
theorem d53_abc_r : (lim Tryz.prog E47 X47).dat 159 [.sc (.string ⟨#[97, 98, 99]⟩), .sc (.int .u8 114)] = some [bv false] := lim_dat.2 ⟨100, by kernel_rfl⟩
theorem d53_c_a : (lim Tryz.prog E47 X47).dat 159 [.sc (.string ⟨#[99]⟩), .sc (.int .u8 97)] = some [bv false] := lim_dat.2 ⟨100, by kernel_rfl⟩
theorem d53_c_b : (lim Tryz.prog E47 X47).dat 159 [.sc (.string ⟨#[99]⟩), .sc (.int .u8 98)] = some [bv false] := lim_dat.2 ⟨100, by kernel_rfl⟩
theorem d53_c_c : (lim Tryz.prog E47 X47).dat 159 [.sc (.string ⟨#[99]⟩), .sc (.int .u8 99)] = some [bv true] := lim_dat.2 ⟨100, by kernel_rfl⟩
theorem d53_c_r : (lim Tryz.prog E47 X47).dat 159 [.sc (.string ⟨#[99]⟩), .sc (.int .u8 114)] = some [bv false] := lim_dat.2 ⟨100, by kernel_rfl⟩
theorem d53_a_a : (lim Tryz.prog E47 X47).dat 159 [.sc (.string ⟨#[97]⟩), .sc (.int .u8 97)] = some [bv true] := lim_dat.2 ⟨100, by kernel_rfl⟩
theorem d53_a_b : (lim Tryz.prog E47 X47).dat 159 [.sc (.string ⟨#[97]⟩), .sc (.int .u8 98)] = some [bv false] := lim_dat.2 ⟨100, by kernel_rfl⟩
theorem d53_a_c : (lim Tryz.prog E47 X47).dat 159 [.sc (.string ⟨#[97]⟩), .sc (.int .u8 99)] = some [bv false] := lim_dat.2 ⟨100, by kernel_rfl⟩
theorem d53_a_r : (lim Tryz.prog E47 X47).dat 159 [.sc (.string ⟨#[97]⟩), .sc (.int .u8 114)] = some [bv false] := lim_dat.2 ⟨100, by kernel_rfl⟩
theorem d53__a : (lim Tryz.prog E47 X47).dat 159 [.sc (.string ⟨#[]⟩), .sc (.int .u8 97)] = some [bv false] := lim_dat.2 ⟨100, by kernel_rfl⟩
theorem d53__b : (lim Tryz.prog E47 X47).dat 159 [.sc (.string ⟨#[]⟩), .sc (.int .u8 98)] = some [bv false] := lim_dat.2 ⟨100, by kernel_rfl⟩
theorem d53__c : (lim Tryz.prog E47 X47).dat 159 [.sc (.string ⟨#[]⟩), .sc (.int .u8 99)] = some [bv false] := lim_dat.2 ⟨100, by kernel_rfl⟩
theorem d53__r : (lim Tryz.prog E47 X47).dat 159 [.sc (.string ⟨#[]⟩), .sc (.int .u8 114)] = some [bv false] := lim_dat.2 ⟨100, by kernel_rfl⟩
theorem d53_abr_a : (lim Tryz.prog E47 X47).dat 159 [.sc (.string ⟨#[97, 98, 114]⟩), .sc (.int .u8 97)] = some [bv true] := lim_dat.2 ⟨100, by kernel_rfl⟩
theorem d53_abr_b : (lim Tryz.prog E47 X47).dat 159 [.sc (.string ⟨#[97, 98, 114]⟩), .sc (.int .u8 98)] = some [bv true] := lim_dat.2 ⟨100, by kernel_rfl⟩
theorem d53_abr_c : (lim Tryz.prog E47 X47).dat 159 [.sc (.string ⟨#[97, 98, 114]⟩), .sc (.int .u8 99)] = some [bv false] := lim_dat.2 ⟨100, by kernel_rfl⟩
theorem d53_abr_r : (lim Tryz.prog E47 X47).dat 159 [.sc (.string ⟨#[97, 98, 114]⟩), .sc (.int .u8 114)] = some [bv true] := lim_dat.2 ⟨100, by kernel_rfl⟩
theorem d53_x_a : (lim Tryz.prog E47 X47).dat 159 [.sc (.string ⟨#[63]⟩), .sc (.int .u8 97)] = some [bv false] := lim_dat.2 ⟨100, by kernel_rfl⟩
theorem d53_x_b : (lim Tryz.prog E47 X47).dat 159 [.sc (.string ⟨#[63]⟩), .sc (.int .u8 98)] = some [bv false] := lim_dat.2 ⟨100, by kernel_rfl⟩
theorem d53_x_c : (lim Tryz.prog E47 X47).dat 159 [.sc (.string ⟨#[63]⟩), .sc (.int .u8 99)] = some [bv false] := lim_dat.2 ⟨100, by kernel_rfl⟩
theorem d53_x_r : (lim Tryz.prog E47 X47).dat 159 [.sc (.string ⟨#[63]⟩), .sc (.int .u8 114)] = some [bv false] := lim_dat.2 ⟨100, by kernel_rfl⟩
set_option maxHeartbeats 1000000 in
theorem d54 (h : Bool) (x m : Int)  : (lim Tryz.prog E47 X47).dat 160 [bv h, iv x, iv m] = some [bv (if h then decide (0 ≤ x) && decide (x ≤ m) else decide (x = 0))] := by
  refine fnW Tryz.func160 rfl rfl bodyOk_160 rfl rtys_160 rfl ?_
  cases h
  all_goals by_cases h1 : x = 0
  all_goals by_cases h2 : 0 ≤ x
  all_goals by_cases h3 : x ≤ m
  all_goals exact step11
end Go.Proofs.YtaeeffddinppeaaGreatDoor
namespace Go.Proofs.YtaeeffddinppeaaGreatDoor
open Go Go.Ab
section
variable {P : Program} {E : Cfg} {k : Nat} {call : Orc} {all : Array Oper} {os : List Oper} {fr : Nat → AV} {hp : Hp} {Q : AS → Prop} {d d' j : Nat} {op : Op} {ty : TypeId} {pos : String} {aft : Array Edge} {b : Bool} {fs : List Foot}
end
def wi (h : Bool) (x m : Int) : Bool := if h then decide (0 ≤ x) && decide (x ≤ m) else decide (x = 0)
def hasB (P : ByteArray) (c : UInt8) : Bool := P.data.toList.contains c
def rightI (i : Ins) : Bool := decide (partsOf i.op ≠ ⟨#[63]⟩) && wi (hasB (partsOf i.op) 97) i.a 15 && wi (hasB (partsOf i.op) 98) i.b 15 && wi (hasB (partsOf i.op) 99 || hasB (partsOf i.op) 114) i.c (if hasB (partsOf i.op) 114 then 15 else 65535)
set_option maxRecDepth 20000 in
set_option maxHeartbeats 8000000 in
theorem d48x (i : Ins) (P : ByteArray) (ra rb rc rr nq : Bool) (h52 : (lim Tryz.prog E47 X47).dat 158 [iv i.op] = some [.sc (.string P)]) (hq : decide (P = ⟨#[63]⟩) = !nq) (h53a : (lim Tryz.prog E47 X47).dat 159 [.sc (.string P), .sc (.int .u8 97)] = some [bv ra]) (h53b : (lim Tryz.prog E47 X47).dat 159 [.sc (.string P), .sc (.int .u8 98)] = some [bv rb]) (h53c : (lim Tryz.prog E47 X47).dat 159 [.sc (.string P), .sc (.int .u8 99)] = some [bv rc]) (h53r : (lim Tryz.prog E47 X47).dat 159 [.sc (.string P), .sc (.int .u8 114)] = some [bv rr]) : (lim Tryz.prog E47 X47).dat 111 [.agg i.row] = some [bv (nq && wi ra i.a 15 && wi rb i.b 15 && wi (rc || rr) i.c (if rr then 15 else 65535))] := by
  refine fnW Tryz.func111 rfl rfl bodyOk_111 rfl rtys_111 rfl ?_
  have h54a := d54 ra i.a 15
  have h54b := d54 rb i.b 15
  have h54c := d54 (rc || rr) i.c (if rr then 15 else 65535)
  simp only [← wi.eq_def] at h54a h54b h54c
  obtain ⟨op, a, b, c⟩ := i
  simp only [Ins.row] at *
  generalize wi ra a 15 = xa at *
  generalize wi rb b 15 = xb at *
  generalize wi (rc || rr) c (if rr then 15 else 65535) = xc at *
  cases nq
  · have hP : P = ⟨#[63]⟩ := by simpa using hq
    subst hP
    clear hq
    cases rr <;> cases rc
    all_goals simp only [Bool.not_true, Bool.not_false, Bool.or_true, Bool.or_false, if_true, if_false, Bool.false_eq_true] at *
    all_goals exact step1
  have hP : ¬ P = ⟨#[63]⟩ := by simpa using hq
  clear hq
  cases rr <;> cases rc
  all_goals simp only [Bool.not_true, Bool.not_false, Bool.or_true, Bool.or_false, if_true, if_false, Bool.false_eq_true] at *
  all_goals exact step1
end Go.Proofs.YtaeeffddinppeaaGreatDoor
namespace Go.Proofs.YtaeeffddinppeaaGreatDoor
open Go Go.Ab
theorem parts_one (op : Int) : partsOf op = ⟨#[97, 99]⟩ ∨ partsOf op = ⟨#[97, 98]⟩ ∨ partsOf op = ⟨#[97, 98, 99]⟩ ∨ partsOf op = ⟨#[99]⟩ ∨ partsOf op = ⟨#[97]⟩ ∨ partsOf op = ⟨#[]⟩ ∨ partsOf op = ⟨#[97, 98, 114]⟩ ∨ partsOf op = ⟨#[63]⟩ := by
  unfold partsOf
  repeat' split
  all_goals simp
theorem d48 (i : Ins) (h : 0 ≤ i.op) : (lim Tryz.prog E47 X47).dat 111 [.agg i.row] = some [bv (rightI i)] := by
  have h52 := d52 i.op h
  unfold rightI
  rcases parts_one i.op with e | e | e | e | e | e | e | e
  · rw [e] at h52 ⊢
    rw [d48x i ⟨#[97, 99]⟩ true false true false true h52 (by decide) d53_ac_a d53_ac_b d53_ac_c d53_ac_r]
    rfl
  · rw [e] at h52 ⊢
    rw [d48x i ⟨#[97, 98]⟩ true true false false true h52 (by decide) d53_ab_a d53_ab_b d53_ab_c d53_ab_r]
    rfl
  · rw [e] at h52 ⊢
    rw [d48x i ⟨#[97, 98, 99]⟩ true true true false true h52 (by decide) d53_abc_a d53_abc_b d53_abc_c d53_abc_r]
    rfl
  · rw [e] at h52 ⊢
    rw [d48x i ⟨#[99]⟩ false false true false true h52 (by decide) d53_c_a d53_c_b d53_c_c d53_c_r]
    rfl
  · rw [e] at h52 ⊢
    rw [d48x i ⟨#[97]⟩ true false false false true h52 (by decide) d53_a_a d53_a_b d53_a_c d53_a_r]
    rfl
  · rw [e] at h52 ⊢
    rw [d48x i ⟨#[]⟩ false false false false true h52 (by decide) d53__a d53__b d53__c d53__r]
    rfl
  · rw [e] at h52 ⊢
    rw [d48x i ⟨#[97, 98, 114]⟩ true true false true true h52 (by decide) d53_abr_a d53_abr_b d53_abr_c d53_abr_r]
    rfl
  · rw [e] at h52 ⊢
    rw [d48x i ⟨#[63]⟩ false false false false false h52 (by decide) d53_x_a d53_x_b d53_x_c d53_x_r]
    rfl
def insW (w : Int) : Ins := ⟨w / 16777216, w / 1048576 % 16, w / 65536 % 16, w % 65536⟩
def decR (w : Int) : List AV := if rightI (insW w) then (insW w).row else [iv 0, iv 0, iv 0, iv 0]
def okR (w : Int) : Bool := rightI (insW w)
set_option maxHeartbeats 4000000 in
theorem d43 (w : Int) (hU : U w) : (lim Tryz.prog E47 X47).dat 214 [uv w] = some [.agg (decR w), iv (if okR w then 0 else 7)] := by
  refine fnW Tryz.func214 rfl rfl bodyOk_214 rfl rtys_214 rfl ?_
  unfold U at hU
  have h48 := d48 (insW w) (by show 0 ≤ w / 16777216; omega)
  have w1 : IntKind.u32.wrap (w.tdiv 16777216) = w / 16777216 := by rw [Int.tdiv_eq_ediv_of_nonneg hU.1, IntKind.wrap_u32]; omega
  have w2 : IntKind.u32.wrap (w.tdiv 1048576) = w / 1048576 := by rw [Int.tdiv_eq_ediv_of_nonneg hU.1, IntKind.wrap_u32]; omega
  have w3 : IntKind.u32.wrap (w.tdiv 65536) = w / 65536 := by rw [Int.tdiv_eq_ediv_of_nonneg hU.1, IntKind.wrap_u32]; omega
  have t2 : (w / 1048576).tmod 16 = w / 1048576 % 16 := Int.tmod_eq_emod_of_nonneg (by omega)
  have t3 : (w / 65536).tmod 16 = w / 65536 % 16 := Int.tmod_eq_emod_of_nonneg (by omega)
  have t4 : w.tmod 65536 = w % 65536 := Int.tmod_eq_emod_of_nonneg (by omega)
  have i1 : IntKind.i64.wrap (w / 16777216) = w / 16777216 := wrap64 (by omega) (by omega)
  have i2 : IntKind.i64.wrap (w / 1048576 % 16) = w / 1048576 % 16 := wrap64 (by omega) (by omega)
  have i3 : IntKind.i64.wrap (w / 65536 % 16) = w / 65536 % 16 := wrap64 (by omega) (by omega)
  have i4 : IntKind.i64.wrap (w % 65536) = w % 65536 := wrap64 (by omega) (by omega)
  have r2 : IntKind.u32.wrap (w / 1048576 % 16) = w / 1048576 % 16 := by rw [IntKind.wrap_u32]; omega
  have r3 : IntKind.u32.wrap (w / 65536 % 16) = w / 65536 % 16 := by rw [IntKind.wrap_u32]; omega
  have r4 : IntKind.u32.wrap (w % 65536) = w % 65536 := by rw [IntKind.wrap_u32]; omega
  unfold decR okR
  simp only [Ins.row] at h48 ⊢
  generalize rightI (insW w) = r at h48
  simp only [insW] at h48 ⊢
  clear hU
  cases r
  all_goals exact step7
abbrev rowD (l : List Int) : List (List AV) := l.map decR
abbrev rowK (l : List Int) : List (List AV) := l.map fun w => [bv (okR w)]
end Go.Proofs.YtaeeffddinppeaaGreatDoor
namespace Go.Proofs.YtaeeffddinppeaaGreatDoor
open Go Go.Ab
def Z4 : List AV := [iv 0, iv 0, iv 0, iv 0]
def fil {α : Type} (f : Int → α) (z : α) (l : List Int) (k : Nat) : List α := (l.take k).map f ++ List.replicate (l.length - k) z
theorem fil_len {α : Type} (f : Int → α) (z : α) (l : List Int) (k : Nat) (h : k ≤ l.length) : (fil f z l k).length = l.length := by simp [fil]; omega
theorem fil_zero {α : Type} (f : Int → α) (z : α) (l : List Int) : fil f z l 0 = List.replicate l.length z := by simp [fil]
theorem fil_all {α : Type} (f : Int → α) (z : α) (l : List Int) : fil f z l l.length = l.map f := by simp [fil]
theorem fil_get {α : Type} (f : Int → α) (z : α) (l : List Int) (k : Nat) (h : k < l.length) : (fil f z l k)[k]? = some z := by
  unfold fil
  rw [List.getElem?_append_right (by simp; omega)]
  simp [List.length_take, Nat.min_eq_left (Nat.le_of_lt h), List.getElem?_replicate]; omega
theorem fil_set {α : Type} (f : Int → α) (z : α) (l : List Int) (k : Nat) (w : Int) (h : l[k]? = some w) : (fil f z l k).set k (f w) = fil f z l (k + 1) := by
  have hk := (List.getElem?_eq_some_iff.1 h).1
  unfold fil
  rw [List.set_append_right _ _ (by simp; omega), List.take_add_one, h, List.map_append]
  obtain ⟨m, hm⟩ : ∃ m, l.length - k = m + 1 := ⟨l.length - k - 1, by omega⟩
  rw [show l.length - (k + 1) = m from by omega, hm, List.replicate_succ]
  simp [Nat.min_eq_left (Nat.le_of_lt hk)]
theorem decR_four (w : Int) : ∃ a b c d : Int, decR w = [iv a, iv b, iv c, iv d] := by
  unfold decR
  split
  · exact ⟨_, _, _, _, rfl⟩
  · exact ⟨0, 0, 0, 0, rfl⟩
set_option maxHeartbeats 4000000 in
theorem d38 (l : List Int) (data : Int) (hl : l.length ≤ 1048576) (hU : ∀ x ∈ l, U x) : (lim Tryz.prog E47 X47).dat 161 [.agg [.sl false 1 (rowW l), iv data]] = some [.vec 4 (rowD l), .vec 1 (rowK l)] := by
  refine fnW Tryz.func161 rfl rfl bodyOk_161 rfl rtys_161 rfl ?_
  have n1 : 4 * l.length ≤ 140737488355328 := by omega
  have n2 : l.length ≤ 140737488355328 := by omega
  have n3 : (l.length : Int) * 32 ≤ 140737488355328 := by omega
  have n4 : (l.length : Int) ≤ 9223372036854775807 := by omega
  have n5 : (l.length : Int) ≤ 140737488355328 := by omega
  refine sgo1 ?_
  refine W_loopS (n := l.length) (fun s0 m q => ∃ k : Nat, m = l.length - k ∧ k ≤ l.length ∧ q.fr 6 = iv k ∧ q.fr 1 = s0.fr 1 ∧ q.fr 4 = s0.fr 4 ∧ q.fr 5 = s0.fr 5 ∧ q.hp ⟨0, 1, 0⟩ = s0.hp ⟨0, 1, 0⟩ ∧ q.hp ⟨0, 12, 0⟩ = .arr 1 4 119 (fil decR Z4 l k) false ∧ q.hp ⟨0, 16, 0⟩ = .arr 1 1 4 (fil (fun w => [bv (okR w)]) [bv false] l k) false) ⟨0, by simp, by omega, by simp, by simp, by simp, by simp, by simp, by simp [fil_zero, Z4], by simp [fil_zero]⟩ ?_
  rintro m ⟨fr, hp⟩ ⟨k, rfl, hk, hs6, hs1, hs4, hs5, hh1, hh12, hh16⟩
  simp at hs6 hs1 hs4 hs5 hh1 hh12 hh16
  have f1 := fil_len decR Z4 l k hk
  have f2 := fil_len (fun w => [bv (okR w)]) [bv false] l k hk
  by_cases hlt : k < l.length
  · have hg := List.getElem?_eq_getElem hlt
    have hw := wrapN (k := k) (by omega)
    have hd := d43 _ (hU _ (List.getElem_mem hlt))
    obtain ⟨w, hwl⟩ : ∃ w, l[k] = w := ⟨_, rfl⟩
    rw [hwl] at hg hd
    have hwe : ∀ h, l[k]'h = w := fun _ => hwl
    have f3 := fil_set decR Z4 l k w hg
    have f4 := fil_set (fun w => [bv (okR w)]) [bv false] l k w hg
    have f5 : ∀ h, (fil decR Z4 l k)[k]'h = [iv 0, iv 0, iv 0, iv 0] := fun h => by
      have := fil_get decR Z4 l k hlt
      rw [List.getElem?_eq_getElem (by omega)] at this
      simpa [Z4] using this
    have f6 : ∀ h, (fil (fun w => [bv (okR w)]) [bv false] l k)[k]'h = [bv false] := fun h => by
      have := fil_get (fun w => [bv (okR w)]) [bv false] l k hlt
      rw [List.getElem?_eq_getElem (by omega)] at this
      simpa using this
    obtain ⟨a, b, c, d, hde⟩ := decR_four w
    rw [hde] at hd f3
    clear hU
    generalize fil decR Z4 l k = F1 at *
    generalize fil (fun w => [bv (okR w)]) [bv false] l k = F2 at *
    have hok : ((if okR w = true then (0 : Int) else 7) == 0) = okR w := by cases okR w <;> rfl
    have hlI : (k : Int) < l.length := by omega
    refine sgo1 ?_
    exact ⟨_, by omega, k + 1, rfl, hlt, by simp [*], by simp [*], by simp [*], by simp [*], by simp [*], by simp [*], by simp [*]⟩
  · obtain rfl : k = l.length := by omega
    rw [fil_all] at hh12 hh16
    have q1 : (rowD l).take l.length = rowD l := List.take_of_length_le (by simp)
    have q2 : (rowK l).take l.length = rowK l := List.take_of_length_le (by simp)
    exact step7
end Go.Proofs.YtaeeffddinppeaaGreatDoor
