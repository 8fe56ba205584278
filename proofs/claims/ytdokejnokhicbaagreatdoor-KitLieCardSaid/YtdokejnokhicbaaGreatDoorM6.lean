/- Law 47: a mirror, walked. -/
import Derived.Test.YtdokejnokhicbaaGreatDoorM3
namespace Go.Proofs.YtdokejnokhicbaaGreatDoor
open Go Go.Ab
set_option linter.unusedSimpArgs false
set_option linter.unusedVariables false
/-- An instruction. -/
structure Ins where
  (op a b c : Int)
@[simp] def Ins.row (i : Ins) : List AV := [iv i.op, iv i.a, iv i.b, iv i.c]
def Ins.enc (i : Ins) : Int := i.op * 16777216 + i.a * 1048576 + i.b * 65536 + i.c
/-- A mirror's instructions, if its code has N words. -/
def mI (N : Int) : List Ins := [⟨1, 1, 0, 83⟩, ⟨24, 1, 0, 0⟩, ⟨1, 1, 0, 69⟩, ⟨24, 1, 0, 0⟩, ⟨24, 1, 0, 0⟩, ⟨1, 1, 0, 68⟩, ⟨24, 1, 0, 0⟩, ⟨1, 8, 0, 8⟩, ⟨1, 7, 0, 1⟩, ⟨1, 4, 0, N⟩, ⟨3, 2, 4, 0⟩, ⟨21, 15, 0, 19⟩, ⟨21, 15, 0, 19⟩, ⟨27, 2, 3, 0⟩, ⟨21, 15, 0, 19⟩, ⟨4, 3, 3, 7⟩, ⟨14, 5, 3, 4⟩, ⟨20, 5, 0, 13⟩, ⟨26, 0, 0, 0⟩, ⟨24, 2, 0, 0⟩, ⟨13, 2, 2, 8⟩, ⟨24, 2, 0, 0⟩, ⟨13, 2, 2, 8⟩, ⟨24, 2, 0, 0⟩, ⟨13, 2, 2, 8⟩, ⟨24, 2, 0, 0⟩, ⟨13, 2, 2, 8⟩, ⟨22, 15, 0, 0⟩]
def mcode (N : Int) : List Int := (mI N).map Ins.enc
theorem e33_1_1_0_83 : (lim Tryz.prog E47 X47).dat 70 [.agg [iv 1, iv 1, iv 0, iv 83]] = some [uv 17825875, iv 0] := lim_dat.2 ⟨100, by kernel_rfl⟩
theorem e33_24_1_0_0 : (lim Tryz.prog E47 X47).dat 70 [.agg [iv 24, iv 1, iv 0, iv 0]] = some [uv 403701760, iv 0] := lim_dat.2 ⟨100, by kernel_rfl⟩
theorem e33_1_1_0_69 : (lim Tryz.prog E47 X47).dat 70 [.agg [iv 1, iv 1, iv 0, iv 69]] = some [uv 17825861, iv 0] := lim_dat.2 ⟨100, by kernel_rfl⟩
theorem e33_1_1_0_68 : (lim Tryz.prog E47 X47).dat 70 [.agg [iv 1, iv 1, iv 0, iv 68]] = some [uv 17825860, iv 0] := lim_dat.2 ⟨100, by kernel_rfl⟩
theorem e33_1_8_0_8 : (lim Tryz.prog E47 X47).dat 70 [.agg [iv 1, iv 8, iv 0, iv 8]] = some [uv 25165832, iv 0] := lim_dat.2 ⟨100, by kernel_rfl⟩
theorem e33_1_7_0_1 : (lim Tryz.prog E47 X47).dat 70 [.agg [iv 1, iv 7, iv 0, iv 1]] = some [uv 24117249, iv 0] := lim_dat.2 ⟨100, by kernel_rfl⟩
theorem e33_3_2_4_0 : (lim Tryz.prog E47 X47).dat 70 [.agg [iv 3, iv 2, iv 4, iv 0]] = some [uv 52690944, iv 0] := lim_dat.2 ⟨100, by kernel_rfl⟩
theorem e33_21_15_0_19 : (lim Tryz.prog E47 X47).dat 70 [.agg [iv 21, iv 15, iv 0, iv 19]] = some [uv 368050195, iv 0] := lim_dat.2 ⟨100, by kernel_rfl⟩
theorem e33_27_2_3_0 : (lim Tryz.prog E47 X47).dat 70 [.agg [iv 27, iv 2, iv 3, iv 0]] = some [uv 455278592, iv 0] := lim_dat.2 ⟨100, by kernel_rfl⟩
theorem e33_4_3_3_7 : (lim Tryz.prog E47 X47).dat 70 [.agg [iv 4, iv 3, iv 3, iv 7]] = some [uv 70451207, iv 0] := lim_dat.2 ⟨100, by kernel_rfl⟩
theorem e33_14_5_3_4 : (lim Tryz.prog E47 X47).dat 70 [.agg [iv 14, iv 5, iv 3, iv 4]] = some [uv 240320516, iv 0] := lim_dat.2 ⟨100, by kernel_rfl⟩
theorem e33_20_5_0_13 : (lim Tryz.prog E47 X47).dat 70 [.agg [iv 20, iv 5, iv 0, iv 13]] = some [uv 340787213, iv 0] := lim_dat.2 ⟨100, by kernel_rfl⟩
theorem e33_26_0_0_0 : (lim Tryz.prog E47 X47).dat 70 [.agg [iv 26, iv 0, iv 0, iv 0]] = some [uv 436207616, iv 0] := lim_dat.2 ⟨100, by kernel_rfl⟩
theorem e33_24_2_0_0 : (lim Tryz.prog E47 X47).dat 70 [.agg [iv 24, iv 2, iv 0, iv 0]] = some [uv 404750336, iv 0] := lim_dat.2 ⟨100, by kernel_rfl⟩
theorem e33_13_2_2_8 : (lim Tryz.prog E47 X47).dat 70 [.agg [iv 13, iv 2, iv 2, iv 8]] = some [uv 220332040, iv 0] := lim_dat.2 ⟨100, by kernel_rfl⟩
theorem e33_22_15_0_0 : (lim Tryz.prog E47 X47).dat 70 [.agg [iv 22, iv 15, iv 0, iv 0]] = some [uv 384827392, iv 0] := lim_dat.2 ⟨100, by kernel_rfl⟩
theorem e33_N28 : (lim Tryz.prog E47 X47).dat 70 [.agg [iv 1, iv 4, iv 0, iv 28]] = some [uv 20971548, iv 0] := lim_dat.2 ⟨100, by kernel_rfl⟩
theorem e33_N29 : (lim Tryz.prog E47 X47).dat 70 [.agg [iv 1, iv 4, iv 0, iv 29]] = some [uv 20971549, iv 0] := lim_dat.2 ⟨100, by kernel_rfl⟩
theorem e33_N30 : (lim Tryz.prog E47 X47).dat 70 [.agg [iv 1, iv 4, iv 0, iv 30]] = some [uv 20971550, iv 0] := lim_dat.2 ⟨100, by kernel_rfl⟩
theorem e33_N31 : (lim Tryz.prog E47 X47).dat 70 [.agg [iv 1, iv 4, iv 0, iv 31]] = some [uv 20971551, iv 0] := lim_dat.2 ⟨100, by kernel_rfl⟩
theorem e33_N32 : (lim Tryz.prog E47 X47).dat 70 [.agg [iv 1, iv 4, iv 0, iv 32]] = some [uv 20971552, iv 0] := lim_dat.2 ⟨100, by kernel_rfl⟩
theorem e33_N33 : (lim Tryz.prog E47 X47).dat 70 [.agg [iv 1, iv 4, iv 0, iv 33]] = some [uv 20971553, iv 0] := lim_dat.2 ⟨100, by kernel_rfl⟩
theorem e33_N34 : (lim Tryz.prog E47 X47).dat 70 [.agg [iv 1, iv 4, iv 0, iv 34]] = some [uv 20971554, iv 0] := lim_dat.2 ⟨100, by kernel_rfl⟩
theorem e33_N35 : (lim Tryz.prog E47 X47).dat 70 [.agg [iv 1, iv 4, iv 0, iv 35]] = some [uv 20971555, iv 0] := lim_dat.2 ⟨100, by kernel_rfl⟩
theorem e33_N36 : (lim Tryz.prog E47 X47).dat 70 [.agg [iv 1, iv 4, iv 0, iv 36]] = some [uv 20971556, iv 0] := lim_dat.2 ⟨100, by kernel_rfl⟩
theorem e33_N37 : (lim Tryz.prog E47 X47).dat 70 [.agg [iv 1, iv 4, iv 0, iv 37]] = some [uv 20971557, iv 0] := lim_dat.2 ⟨100, by kernel_rfl⟩
theorem e33_N38 : (lim Tryz.prog E47 X47).dat 70 [.agg [iv 1, iv 4, iv 0, iv 38]] = some [uv 20971558, iv 0] := lim_dat.2 ⟨100, by kernel_rfl⟩
theorem e33_N39 : (lim Tryz.prog E47 X47).dat 70 [.agg [iv 1, iv 4, iv 0, iv 39]] = some [uv 20971559, iv 0] := lim_dat.2 ⟨100, by kernel_rfl⟩
theorem e33_N40 : (lim Tryz.prog E47 X47).dat 70 [.agg [iv 1, iv 4, iv 0, iv 40]] = some [uv 20971560, iv 0] := lim_dat.2 ⟨100, by kernel_rfl⟩
theorem e33_N41 : (lim Tryz.prog E47 X47).dat 70 [.agg [iv 1, iv 4, iv 0, iv 41]] = some [uv 20971561, iv 0] := lim_dat.2 ⟨100, by kernel_rfl⟩
theorem e33_N42 : (lim Tryz.prog E47 X47).dat 70 [.agg [iv 1, iv 4, iv 0, iv 42]] = some [uv 20971562, iv 0] := lim_dat.2 ⟨100, by kernel_rfl⟩
theorem e33_N43 : (lim Tryz.prog E47 X47).dat 70 [.agg [iv 1, iv 4, iv 0, iv 43]] = some [uv 20971563, iv 0] := lim_dat.2 ⟨100, by kernel_rfl⟩
theorem e33_N44 : (lim Tryz.prog E47 X47).dat 70 [.agg [iv 1, iv 4, iv 0, iv 44]] = some [uv 20971564, iv 0] := lim_dat.2 ⟨100, by kernel_rfl⟩
theorem e33_N45 : (lim Tryz.prog E47 X47).dat 70 [.agg [iv 1, iv 4, iv 0, iv 45]] = some [uv 20971565, iv 0] := lim_dat.2 ⟨100, by kernel_rfl⟩
theorem e33_N46 : (lim Tryz.prog E47 X47).dat 70 [.agg [iv 1, iv 4, iv 0, iv 46]] = some [uv 20971566, iv 0] := lim_dat.2 ⟨100, by kernel_rfl⟩
theorem e33_N47 : (lim Tryz.prog E47 X47).dat 70 [.agg [iv 1, iv 4, iv 0, iv 47]] = some [uv 20971567, iv 0] := lim_dat.2 ⟨100, by kernel_rfl⟩
theorem e33_N48 : (lim Tryz.prog E47 X47).dat 70 [.agg [iv 1, iv 4, iv 0, iv 48]] = some [uv 20971568, iv 0] := lim_dat.2 ⟨100, by kernel_rfl⟩
theorem e33_N49 : (lim Tryz.prog E47 X47).dat 70 [.agg [iv 1, iv 4, iv 0, iv 49]] = some [uv 20971569, iv 0] := lim_dat.2 ⟨100, by kernel_rfl⟩
theorem e33_N50 : (lim Tryz.prog E47 X47).dat 70 [.agg [iv 1, iv 4, iv 0, iv 50]] = some [uv 20971570, iv 0] := lim_dat.2 ⟨100, by kernel_rfl⟩
theorem e33_N51 : (lim Tryz.prog E47 X47).dat 70 [.agg [iv 1, iv 4, iv 0, iv 51]] = some [uv 20971571, iv 0] := lim_dat.2 ⟨100, by kernel_rfl⟩
theorem e33_N52 : (lim Tryz.prog E47 X47).dat 70 [.agg [iv 1, iv 4, iv 0, iv 52]] = some [uv 20971572, iv 0] := lim_dat.2 ⟨100, by kernel_rfl⟩
theorem e33_N53 : (lim Tryz.prog E47 X47).dat 70 [.agg [iv 1, iv 4, iv 0, iv 53]] = some [uv 20971573, iv 0] := lim_dat.2 ⟨100, by kernel_rfl⟩
theorem e33_N54 : (lim Tryz.prog E47 X47).dat 70 [.agg [iv 1, iv 4, iv 0, iv 54]] = some [uv 20971574, iv 0] := lim_dat.2 ⟨100, by kernel_rfl⟩
theorem e33_N55 : (lim Tryz.prog E47 X47).dat 70 [.agg [iv 1, iv 4, iv 0, iv 55]] = some [uv 20971575, iv 0] := lim_dat.2 ⟨100, by kernel_rfl⟩
theorem e33_N56 : (lim Tryz.prog E47 X47).dat 70 [.agg [iv 1, iv 4, iv 0, iv 56]] = some [uv 20971576, iv 0] := lim_dat.2 ⟨100, by kernel_rfl⟩
theorem e33_N57 : (lim Tryz.prog E47 X47).dat 70 [.agg [iv 1, iv 4, iv 0, iv 57]] = some [uv 20971577, iv 0] := lim_dat.2 ⟨100, by kernel_rfl⟩
theorem e33_N58 : (lim Tryz.prog E47 X47).dat 70 [.agg [iv 1, iv 4, iv 0, iv 58]] = some [uv 20971578, iv 0] := lim_dat.2 ⟨100, by kernel_rfl⟩
theorem e33_N59 : (lim Tryz.prog E47 X47).dat 70 [.agg [iv 1, iv 4, iv 0, iv 59]] = some [uv 20971579, iv 0] := lim_dat.2 ⟨100, by kernel_rfl⟩
theorem e33_N60 : (lim Tryz.prog E47 X47).dat 70 [.agg [iv 1, iv 4, iv 0, iv 60]] = some [uv 20971580, iv 0] := lim_dat.2 ⟨100, by kernel_rfl⟩
theorem e33_N61 : (lim Tryz.prog E47 X47).dat 70 [.agg [iv 1, iv 4, iv 0, iv 61]] = some [uv 20971581, iv 0] := lim_dat.2 ⟨100, by kernel_rfl⟩
theorem e33_N62 : (lim Tryz.prog E47 X47).dat 70 [.agg [iv 1, iv 4, iv 0, iv 62]] = some [uv 20971582, iv 0] := lim_dat.2 ⟨100, by kernel_rfl⟩
theorem e33_N63 : (lim Tryz.prog E47 X47).dat 70 [.agg [iv 1, iv 4, iv 0, iv 63]] = some [uv 20971583, iv 0] := lim_dat.2 ⟨100, by kernel_rfl⟩
theorem e33_N64 : (lim Tryz.prog E47 X47).dat 70 [.agg [iv 1, iv 4, iv 0, iv 64]] = some [uv 20971584, iv 0] := lim_dat.2 ⟨100, by kernel_rfl⟩
theorem e33_N65 : (lim Tryz.prog E47 X47).dat 70 [.agg [iv 1, iv 4, iv 0, iv 65]] = some [uv 20971585, iv 0] := lim_dat.2 ⟨100, by kernel_rfl⟩
theorem e33_N66 : (lim Tryz.prog E47 X47).dat 70 [.agg [iv 1, iv 4, iv 0, iv 66]] = some [uv 20971586, iv 0] := lim_dat.2 ⟨100, by kernel_rfl⟩
theorem e33_N67 : (lim Tryz.prog E47 X47).dat 70 [.agg [iv 1, iv 4, iv 0, iv 67]] = some [uv 20971587, iv 0] := lim_dat.2 ⟨100, by kernel_rfl⟩
theorem e33_N68 : (lim Tryz.prog E47 X47).dat 70 [.agg [iv 1, iv 4, iv 0, iv 68]] = some [uv 20971588, iv 0] := lim_dat.2 ⟨100, by kernel_rfl⟩
theorem e33_N69 : (lim Tryz.prog E47 X47).dat 70 [.agg [iv 1, iv 4, iv 0, iv 69]] = some [uv 20971589, iv 0] := lim_dat.2 ⟨100, by kernel_rfl⟩
theorem e33_N70 : (lim Tryz.prog E47 X47).dat 70 [.agg [iv 1, iv 4, iv 0, iv 70]] = some [uv 20971590, iv 0] := lim_dat.2 ⟨100, by kernel_rfl⟩
theorem e33_N71 : (lim Tryz.prog E47 X47).dat 70 [.agg [iv 1, iv 4, iv 0, iv 71]] = some [uv 20971591, iv 0] := lim_dat.2 ⟨100, by kernel_rfl⟩
theorem e33_N72 : (lim Tryz.prog E47 X47).dat 70 [.agg [iv 1, iv 4, iv 0, iv 72]] = some [uv 20971592, iv 0] := lim_dat.2 ⟨100, by kernel_rfl⟩
theorem e33_N73 : (lim Tryz.prog E47 X47).dat 70 [.agg [iv 1, iv 4, iv 0, iv 73]] = some [uv 20971593, iv 0] := lim_dat.2 ⟨100, by kernel_rfl⟩
theorem e33_N74 : (lim Tryz.prog E47 X47).dat 70 [.agg [iv 1, iv 4, iv 0, iv 74]] = some [uv 20971594, iv 0] := lim_dat.2 ⟨100, by kernel_rfl⟩
theorem e33_N75 : (lim Tryz.prog E47 X47).dat 70 [.agg [iv 1, iv 4, iv 0, iv 75]] = some [uv 20971595, iv 0] := lim_dat.2 ⟨100, by kernel_rfl⟩
theorem e33_N76 : (lim Tryz.prog E47 X47).dat 70 [.agg [iv 1, iv 4, iv 0, iv 76]] = some [uv 20971596, iv 0] := lim_dat.2 ⟨100, by kernel_rfl⟩
theorem e33_N77 : (lim Tryz.prog E47 X47).dat 70 [.agg [iv 1, iv 4, iv 0, iv 77]] = some [uv 20971597, iv 0] := lim_dat.2 ⟨100, by kernel_rfl⟩
theorem e33_N78 : (lim Tryz.prog E47 X47).dat 70 [.agg [iv 1, iv 4, iv 0, iv 78]] = some [uv 20971598, iv 0] := lim_dat.2 ⟨100, by kernel_rfl⟩
theorem e33_N79 : (lim Tryz.prog E47 X47).dat 70 [.agg [iv 1, iv 4, iv 0, iv 79]] = some [uv 20971599, iv 0] := lim_dat.2 ⟨100, by kernel_rfl⟩
theorem e33_N80 : (lim Tryz.prog E47 X47).dat 70 [.agg [iv 1, iv 4, iv 0, iv 80]] = some [uv 20971600, iv 0] := lim_dat.2 ⟨100, by kernel_rfl⟩
theorem e33_N81 : (lim Tryz.prog E47 X47).dat 70 [.agg [iv 1, iv 4, iv 0, iv 81]] = some [uv 20971601, iv 0] := lim_dat.2 ⟨100, by kernel_rfl⟩
theorem e33_N82 : (lim Tryz.prog E47 X47).dat 70 [.agg [iv 1, iv 4, iv 0, iv 82]] = some [uv 20971602, iv 0] := lim_dat.2 ⟨100, by kernel_rfl⟩
theorem e33_N83 : (lim Tryz.prog E47 X47).dat 70 [.agg [iv 1, iv 4, iv 0, iv 83]] = some [uv 20971603, iv 0] := lim_dat.2 ⟨100, by kernel_rfl⟩
theorem e33_N84 : (lim Tryz.prog E47 X47).dat 70 [.agg [iv 1, iv 4, iv 0, iv 84]] = some [uv 20971604, iv 0] := lim_dat.2 ⟨100, by kernel_rfl⟩
theorem e33_N85 : (lim Tryz.prog E47 X47).dat 70 [.agg [iv 1, iv 4, iv 0, iv 85]] = some [uv 20971605, iv 0] := lim_dat.2 ⟨100, by kernel_rfl⟩
theorem e33_N86 : (lim Tryz.prog E47 X47).dat 70 [.agg [iv 1, iv 4, iv 0, iv 86]] = some [uv 20971606, iv 0] := lim_dat.2 ⟨100, by kernel_rfl⟩
theorem e33_N87 : (lim Tryz.prog E47 X47).dat 70 [.agg [iv 1, iv 4, iv 0, iv 87]] = some [uv 20971607, iv 0] := lim_dat.2 ⟨100, by kernel_rfl⟩
theorem e33_N88 : (lim Tryz.prog E47 X47).dat 70 [.agg [iv 1, iv 4, iv 0, iv 88]] = some [uv 20971608, iv 0] := lim_dat.2 ⟨100, by kernel_rfl⟩
theorem e33_N (n : Nat) (h0 : 28 ≤ n) (h1 : n ≤ 88) : (lim Tryz.prog E47 X47).dat 70 [.agg [iv 1, iv 4, iv 0, iv n]] = some [uv (20971520 + n), iv 0] := by
  have h : n = 28 ∨ n = 29 ∨ n = 30 ∨ n = 31 ∨ n = 32 ∨ n = 33 ∨ n = 34 ∨ n = 35 ∨ n = 36 ∨ n = 37 ∨ n = 38 ∨ n = 39 ∨ n = 40 ∨ n = 41 ∨ n = 42 ∨ n = 43 ∨ n = 44 ∨ n = 45 ∨ n = 46 ∨ n = 47 ∨ n = 48 ∨ n = 49 ∨ n = 50 ∨ n = 51 ∨ n = 52 ∨ n = 53 ∨ n = 54 ∨ n = 55 ∨ n = 56 ∨ n = 57 ∨ n = 58 ∨ n = 59 ∨ n = 60 ∨ n = 61 ∨ n = 62 ∨ n = 63 ∨ n = 64 ∨ n = 65 ∨ n = 66 ∨ n = 67 ∨ n = 68 ∨ n = 69 ∨ n = 70 ∨ n = 71 ∨ n = 72 ∨ n = 73 ∨ n = 74 ∨ n = 75 ∨ n = 76 ∨ n = 77 ∨ n = 78 ∨ n = 79 ∨ n = 80 ∨ n = 81 ∨ n = 82 ∨ n = 83 ∨ n = 84 ∨ n = 85 ∨ n = 86 ∨ n = 87 ∨ n = 88 := by omega
  rcases h with rfl | rfl | rfl | rfl | rfl | rfl | rfl | rfl | rfl | rfl | rfl | rfl | rfl | rfl | rfl | rfl | rfl | rfl | rfl | rfl | rfl | rfl | rfl | rfl | rfl | rfl | rfl | rfl | rfl | rfl | rfl | rfl | rfl | rfl | rfl | rfl | rfl | rfl | rfl | rfl | rfl | rfl | rfl | rfl | rfl | rfl | rfl | rfl | rfl | rfl | rfl | rfl | rfl | rfl | rfl | rfl | rfl | rfl | rfl | rfl | rfl
  · exact e33_N28
  · exact e33_N29
  · exact e33_N30
  · exact e33_N31
  · exact e33_N32
  · exact e33_N33
  · exact e33_N34
  · exact e33_N35
  · exact e33_N36
  · exact e33_N37
  · exact e33_N38
  · exact e33_N39
  · exact e33_N40
  · exact e33_N41
  · exact e33_N42
  · exact e33_N43
  · exact e33_N44
  · exact e33_N45
  · exact e33_N46
  · exact e33_N47
  · exact e33_N48
  · exact e33_N49
  · exact e33_N50
  · exact e33_N51
  · exact e33_N52
  · exact e33_N53
  · exact e33_N54
  · exact e33_N55
  · exact e33_N56
  · exact e33_N57
  · exact e33_N58
  · exact e33_N59
  · exact e33_N60
  · exact e33_N61
  · exact e33_N62
  · exact e33_N63
  · exact e33_N64
  · exact e33_N65
  · exact e33_N66
  · exact e33_N67
  · exact e33_N68
  · exact e33_N69
  · exact e33_N70
  · exact e33_N71
  · exact e33_N72
  · exact e33_N73
  · exact e33_N74
  · exact e33_N75
  · exact e33_N76
  · exact e33_N77
  · exact e33_N78
  · exact e33_N79
  · exact e33_N80
  · exact e33_N81
  · exact e33_N82
  · exact e33_N83
  · exact e33_N84
  · exact e33_N85
  · exact e33_N86
  · exact e33_N87
  · exact e33_N88
theorem enc_all (n : Nat) (h0 : 28 ≤ n) (h1 : n ≤ 88) : ∀ i ∈ mI n, (lim Tryz.prog E47 X47).dat 70 [.agg i.row] = some [uv i.enc, iv 0] := fun i h => by
  simp only [mI, List.mem_cons, List.not_mem_nil, or_false] at h
  rcases h with rfl | rfl | rfl | rfl | rfl | rfl | rfl | rfl | rfl | rfl | rfl | rfl | rfl | rfl | rfl | rfl | rfl | rfl | rfl | rfl | rfl | rfl | rfl | rfl | rfl | rfl | rfl | rfl
  · exact e33_1_1_0_83
  · exact e33_24_1_0_0
  · exact e33_1_1_0_69
  · exact e33_24_1_0_0
  · exact e33_24_1_0_0
  · exact e33_1_1_0_68
  · exact e33_24_1_0_0
  · exact e33_1_8_0_8
  · exact e33_1_7_0_1
  · exact e33_N n h0 h1
  · exact e33_3_2_4_0
  · exact e33_21_15_0_19
  · exact e33_21_15_0_19
  · exact e33_27_2_3_0
  · exact e33_21_15_0_19
  · exact e33_4_3_3_7
  · exact e33_14_5_3_4
  · exact e33_20_5_0_13
  · exact e33_26_0_0_0
  · exact e33_24_2_0_0
  · exact e33_13_2_2_8
  · exact e33_24_2_0_0
  · exact e33_13_2_2_8
  · exact e33_24_2_0_0
  · exact e33_13_2_2_8
  · exact e33_24_2_0_0
  · exact e33_13_2_2_8
  · exact e33_22_15_0_0
end Go.Proofs.YtdokejnokhicbaaGreatDoor

namespace Go.Proofs.YtdokejnokhicbaaGreatDoor
open Go Go.Ab
set_option linter.unusedSimpArgs false
set_option linter.unusedVariables false
def encs (l : List Ins) : List Int := l.map Ins.enc
@[simp] theorem encs_len (l : List Ins) : (encs l).length = l.length := List.length_map ..
@[simp] theorem encs_nil : encs [] = [] := rfl
theorem enc_snoc {l : List Ins} {k : Nat} {i : Ins} (h : l[k]? = some i) : rowW (encs (l.take k)) ++ [[uv i.enc]] = rowW (encs (l.take (k + 1))) := by
  unfold encs; rw [List.take_add_one, h]; simp
set_option maxHeartbeats 4000000 in
theorem d24 (l : List Ins) (hl : l.length ≤ 1048576) (he : ∀ i ∈ l, (lim Tryz.prog E47 X47).dat 70 [.agg i.row] = some [uv i.enc, iv 0]) : (lim Tryz.prog E47 X47).dat 41 [.sl false 4 (l.map Ins.row)] = some [.vec 1 (rowW (encs l)), iv 0] := by
  refine fnW Tryz.func41 rfl rfl bodyOk_41 rfl rtys_41 rfl ?_
  have n1 : 4 * l.length ≤ 140737488355328 := by omega
  have n2 : l.length ≤ 140737488355328 := by omega
  have n3 : (l.length : Int) * 4 ≤ 140737488355328 := by omega
  have n4 : (l.length : Int) ≤ 9223372036854775807 := by omega
  repeat' (first
    | ((with_reducible first | apply Wo_u | apply Wo_n | apply ex2 | apply W_sc | apply W_c | apply Wd_u | apply Wd_n | apply ex4 | apply EndQ_ret | apply EndQ_normal); (conv => lhs; simp -implicitDefEqProofs [*]) <;> exact rfl)
    | (with_reducible first | apply Wo_nil | apply W_ss | apply W_srl | apply W_rl | apply W_sblock | apply W_block | apply W_sskip | apply W_skip | apply W_sret | apply W_ret | apply W_sexit | apply W_exit | apply thenW_n | apply thenW_r | apply thenW_e | apply inB_n | apply inB_r | apply inB_e)
    | ((with_reducible apply Wo_gt); (exact rfl); ((conv => lhs; simp -implicitDefEqProofs [*]) <;> exact rfl); (conv => lhs; simp -implicitDefEqProofs [*]) <;> exact rfl)
    | ((with_reducible apply Wo_gf); (exact rfl); ((conv => lhs; simp -implicitDefEqProofs [*]) <;> exact rfl); (exact rfl))
    | ((with_reducible apply Wo_gx); (exact rfl); ((conv => lhs; simp -implicitDefEqProofs [*]) <;> exact rfl))
    | ((with_reducible apply Wo_gsT); (exact rfl); ((conv => lhs; simp -implicitDefEqProofs [*]) <;> exact rfl))
    | ((with_reducible apply Wo_gsF); (exact rfl); ((conv => lhs; simp -implicitDefEqProofs [*]) <;> exact rfl))
    | ((with_reducible apply Wd_gsT); (exact rfl); ((conv => lhs; simp -implicitDefEqProofs [*]) <;> exact rfl))
    | ((with_reducible apply Wd_gsF); (exact rfl); ((conv => lhs; simp -implicitDefEqProofs [*]) <;> exact rfl))
    | ((with_reducible first | apply W_srdl | apply W_rdl); kernel_rfl)
    | ((with_reducible apply Wd_nil); exact rfl)
    | ((with_reducible apply inB_o); rotate_left; exact rfl)
    | (intro h h'; try simp [*, -h] at h'))
  refine W_loopS (n := l.length) (fun s0 m q => ∃ k g : Nat, m = l.length - k ∧ k ≤ l.length ∧ q.fr 14 = iv k ∧ q.fr 12 = s0.fr 12 ∧ q.fr 13 = s0.fr 13 ∧ q.fr 4 = .own ⟨0, 11, 0⟩ g k ∧ q.hp ⟨0, 11, 0⟩ = .arr g 1 22 (rowW (encs (l.take k))) false) ⟨0, 1, by simp, by omega, by simp, by simp, by simp, by simp, by simp⟩ ?_
  rintro m ⟨fr, hp⟩ ⟨k, g, rfl, hk, hs14, hs12, hs13, hs4, hh⟩
  simp at hs14 hs12 hs13 hs4 hh
  by_cases hlt : k < l.length
  · have hg := List.getElem?_eq_getElem hlt
    have hw := wrapN (k := k) (by omega)
    have hi := he _ (List.getElem_mem hlt)
    have hap := enc_snoc hg
    obtain ⟨i, hwl⟩ : ∃ i, l[k] = i := ⟨_, rfl⟩
    rw [hwl] at hg hi hap
    have hwe : ∀ h, l[k]'h = i := fun _ => hwl
    clear he
    have hg2 : (l.map Ins.row)[k]? = some i.row := by rw [List.getElem?_map, hg]; rfl
    have hlI : (k : Int) < l.length := by omega
    have b1 : (k + 1) * 4 ≤ 140737488355328 := by omega
    have b2 : k ≤ 9223372036854775806 := by omega
    simp only [Ins.row] at hi
    repeat' (first
      | ((with_reducible first | apply Wo_u | apply Wo_n | apply ex2 | apply W_sc | apply W_c | apply Wd_u | apply Wd_n | apply ex4 | apply EndQ_ret | apply EndQ_normal); (conv => lhs; simp -implicitDefEqProofs [*]) <;> exact rfl)
      | (with_reducible first | apply Wo_nil | apply W_ss | apply W_srl | apply W_rl | apply W_sblock | apply W_block | apply W_sskip | apply W_skip | apply W_sret | apply W_ret | apply W_sexit | apply W_exit | apply thenW_n | apply thenW_r | apply thenW_e | apply inB_n | apply inB_r | apply inB_e)
      | ((with_reducible apply Wo_gt); (exact rfl); ((conv => lhs; simp -implicitDefEqProofs [*]) <;> exact rfl); (conv => lhs; simp -implicitDefEqProofs [*]) <;> exact rfl)
      | ((with_reducible apply Wo_gf); (exact rfl); ((conv => lhs; simp -implicitDefEqProofs [*]) <;> exact rfl); (exact rfl))
      | ((with_reducible apply Wo_gx); (exact rfl); ((conv => lhs; simp -implicitDefEqProofs [*]) <;> exact rfl))
      | ((with_reducible apply Wo_gsT); (exact rfl); ((conv => lhs; simp -implicitDefEqProofs [*]) <;> exact rfl))
      | ((with_reducible apply Wo_gsF); (exact rfl); ((conv => lhs; simp -implicitDefEqProofs [*]) <;> exact rfl))
      | ((with_reducible apply Wd_gsT); (exact rfl); ((conv => lhs; simp -implicitDefEqProofs [*]) <;> exact rfl))
      | ((with_reducible apply Wd_gsF); (exact rfl); ((conv => lhs; simp -implicitDefEqProofs [*]) <;> exact rfl))
      | ((with_reducible first | apply W_srdl | apply W_rdl); kernel_rfl)
      | ((with_reducible apply Wd_nil); exact rfl)
      | ((with_reducible apply inB_o); rotate_left; exact rfl)
      | (intro h h'; try simp [*, -h] at h'))
    exact ⟨_, by omega, k + 1, g + 1, rfl, hlt, by simp, by simp [*], by simp [*], by simp [*], by simp [*]⟩
  · obtain rfl : k = l.length := by omega
    have hta : l.take l.length = l := List.take_of_length_le (Nat.le_refl _)
    have htk : (rowW (encs l)).take l.length = rowW (encs l) := List.take_of_length_le (by simp)
    rw [hta] at hh
    repeat' (first
      | ((with_reducible first | apply Wo_u | apply Wo_n | apply ex2 | apply W_sc | apply W_c | apply Wd_u | apply Wd_n | apply ex4 | apply EndQ_ret | apply EndQ_normal); (conv => lhs; simp -implicitDefEqProofs [*]) <;> exact rfl)
      | (with_reducible first | apply Wo_nil | apply W_ss | apply W_srl | apply W_rl | apply W_sblock | apply W_block | apply W_sskip | apply W_skip | apply W_sret | apply W_ret | apply W_sexit | apply W_exit | apply thenW_n | apply thenW_r | apply thenW_e | apply inB_n | apply inB_r | apply inB_e)
      | ((with_reducible apply Wo_gt); (exact rfl); ((conv => lhs; simp -implicitDefEqProofs [*]) <;> exact rfl); (conv => lhs; simp -implicitDefEqProofs [*]) <;> exact rfl)
      | ((with_reducible apply Wo_gf); (exact rfl); ((conv => lhs; simp -implicitDefEqProofs [*]) <;> exact rfl); (exact rfl))
      | ((with_reducible apply Wo_gx); (exact rfl); ((conv => lhs; simp -implicitDefEqProofs [*]) <;> exact rfl))
      | ((with_reducible apply Wo_gsT); (exact rfl); ((conv => lhs; simp -implicitDefEqProofs [*]) <;> exact rfl))
      | ((with_reducible apply Wo_gsF); (exact rfl); ((conv => lhs; simp -implicitDefEqProofs [*]) <;> exact rfl))
      | ((with_reducible apply Wd_gsT); (exact rfl); ((conv => lhs; simp -implicitDefEqProofs [*]) <;> exact rfl))
      | ((with_reducible apply Wd_gsF); (exact rfl); ((conv => lhs; simp -implicitDefEqProofs [*]) <;> exact rfl))
      | ((with_reducible first | apply W_srdl | apply W_rdl); kernel_rfl)
      | ((with_reducible apply Wd_nil); exact rfl)
      | ((with_reducible apply inB_o); rotate_left; exact rfl)
      | (intro h h'; try simp [*, -h] at h'))
    all_goals rfl
set_option maxHeartbeats 8000000 in
theorem d18 (n : Nat) (h0 : 28 ≤ n) (h1 : n ≤ 88) : (lim Tryz.prog E47 X47).dat 21 [iv n] = some [.vec 1 (rowW (mcode n)), iv 0] := by
  refine fnW Tryz.func21 rfl rfl bodyOk_21 rfl rtys_21 rfl ?_
  have h24 := d24 (mI n) (by simp [mI]) (enc_all n h0 h1)
  rw [show (mI n).map Ins.row = [[iv 1, iv 1, iv 0, iv 83], [iv 24, iv 1, iv 0, iv 0], [iv 1, iv 1, iv 0, iv 69], [iv 24, iv 1, iv 0, iv 0], [iv 24, iv 1, iv 0, iv 0], [iv 1, iv 1, iv 0, iv 68], [iv 24, iv 1, iv 0, iv 0], [iv 1, iv 8, iv 0, iv 8], [iv 1, iv 7, iv 0, iv 1], [iv 1, iv 4, iv 0, iv n], [iv 3, iv 2, iv 4, iv 0], [iv 21, iv 15, iv 0, iv 19], [iv 21, iv 15, iv 0, iv 19], [iv 27, iv 2, iv 3, iv 0], [iv 21, iv 15, iv 0, iv 19], [iv 4, iv 3, iv 3, iv 7], [iv 14, iv 5, iv 3, iv 4], [iv 20, iv 5, iv 0, iv 13], [iv 26, iv 0, iv 0, iv 0], [iv 24, iv 2, iv 0, iv 0], [iv 13, iv 2, iv 2, iv 8], [iv 24, iv 2, iv 0, iv 0], [iv 13, iv 2, iv 2, iv 8], [iv 24, iv 2, iv 0, iv 0], [iv 13, iv 2, iv 2, iv 8], [iv 24, iv 2, iv 0, iv 0], [iv 13, iv 2, iv 2, iv 8], [iv 22, iv 15, iv 0, iv 0]] from rfl] at h24
  rw [show mcode n = encs (mI n) from rfl]
  generalize encs (mI n) = r at h24
  repeat' (first
    | ((with_reducible first | apply Wo_u | apply Wo_n | apply ex2 | apply W_sc | apply W_c | apply Wd_u | apply Wd_n | apply ex4 | apply EndQ_ret | apply EndQ_normal); (conv => lhs; simp -implicitDefEqProofs [*]) <;> exact rfl)
    | (with_reducible first | apply Wo_nil | apply W_ss | apply W_srl | apply W_rl | apply W_sblock | apply W_block | apply W_sskip | apply W_skip | apply W_sret | apply W_ret | apply W_sexit | apply W_exit | apply thenW_n | apply thenW_r | apply thenW_e | apply inB_n | apply inB_r | apply inB_e)
    | ((with_reducible apply Wo_gt); (exact rfl); ((conv => lhs; simp -implicitDefEqProofs [*]) <;> exact rfl); (conv => lhs; simp -implicitDefEqProofs [*]) <;> exact rfl)
    | ((with_reducible apply Wo_gf); (exact rfl); ((conv => lhs; simp -implicitDefEqProofs [*]) <;> exact rfl); (exact rfl))
    | ((with_reducible apply Wo_gx); (exact rfl); ((conv => lhs; simp -implicitDefEqProofs [*]) <;> exact rfl))
    | ((with_reducible apply Wo_gsT); (exact rfl); ((conv => lhs; simp -implicitDefEqProofs [*]) <;> exact rfl))
    | ((with_reducible apply Wo_gsF); (exact rfl); ((conv => lhs; simp -implicitDefEqProofs [*]) <;> exact rfl))
    | ((with_reducible apply Wd_gsT); (exact rfl); ((conv => lhs; simp -implicitDefEqProofs [*]) <;> exact rfl))
    | ((with_reducible apply Wd_gsF); (exact rfl); ((conv => lhs; simp -implicitDefEqProofs [*]) <;> exact rfl))
    | ((with_reducible first | apply W_srdl | apply W_rdl); kernel_rfl)
    | ((with_reducible apply Wd_nil); exact rfl)
    | ((with_reducible apply inB_o); rotate_left; exact rfl)
    | (intro h h'; try simp [*, -h] at h'))
  all_goals rfl
theorem mcode_U (n : Nat) (h : n ≤ 88) : ∀ x ∈ mcode n, U x := by
  intro x hx
  unfold U
  simp only [mcode, mI, List.map_cons, List.map_nil, List.mem_cons, List.not_mem_nil, or_false, Ins.enc] at hx
  omega
theorem mcode_len (n : Int) : (mcode n).length = 28 := by simp [mcode, mI]
/-- A mirror's code. -/
def mirC (l : List Int) : List Int := mcode ((28 + l.length : Nat) : Int) ++ l
theorem mirC_len (l : List Int) : (mirC l).length = 28 + l.length := by simp [mirC, mcode_len]
theorem mirC_U (l : List Int) (h : l.length ≤ 60) (hU : ∀ x ∈ l, U x) : ∀ x ∈ mirC l, U x := by
  intro x hx
  rcases List.mem_append.1 hx with h1 | h1
  · exact mcode_U (28 + l.length) (by omega) x h1
  · exact hU x h1
set_option maxHeartbeats 4000000 in
theorem d8 (l : List Int) (hl : l.length ≤ 60) (hU : ∀ x ∈ l, U x) : (lim Tryz.prog E47 X47).dat 9 [.sl false 1 (rowW l)] = some [.sc (.string (txtI (mirC l) 0)), iv 0] := by
  refine fnW Tryz.func9 rfl rfl bodyOk_9 rfl rtys_9 rfl ?_
  have h18 := d18 (28 + l.length) (by omega) (by omega)
  have h19 := d19 (mirC l) 0 (by rw [mirC_len]; omega) ⟨by omega, by omega⟩ (mirC_U l hl hU)
  have n1 : ¬ (1000 : Int) < l.length := by omega
  have hw : IntKind.i64.wrap (28 + (l.length : Int)) = 28 + (l.length : Int) := wrap64 (by omega) (by omega)
  have hap : rowW (mcode (28 + (l.length : Int))) ++ rowW l = rowW (mirC l) := by simp [mirC]
  have hml := mcode_len (28 + (l.length : Int))
  simp only [Int.natCast_add, Int.cast_ofNat_Int] at h18
  generalize mirC l = r at h19 hap
  generalize mcode (28 + (l.length : Int)) = q at h18 hap hml
  have b1 : (28 + l.length) * 4 ≤ 140737488355328 := by omega
  have b2 : 28 + l.length ≤ 9223372036854775807 := by omega
  have hrl : r.length = 28 + l.length := by have := congrArg List.length hap; simp at this; omega
  have htk : (rowW r).take (28 + l.length) = rowW r := List.take_of_length_le (by simp [hrl])
  clear hU
  repeat' (first
    | ((with_reducible first | apply Wo_u | apply Wo_n | apply ex2 | apply W_sc | apply W_c | apply Wd_u | apply Wd_n | apply ex4 | apply EndQ_ret | apply EndQ_normal); (conv => lhs; simp -implicitDefEqProofs [*]) <;> exact rfl)
    | (with_reducible first | apply Wo_nil | apply W_ss | apply W_srl | apply W_rl | apply W_sblock | apply W_block | apply W_sskip | apply W_skip | apply W_sret | apply W_ret | apply W_sexit | apply W_exit | apply thenW_n | apply thenW_r | apply thenW_e | apply inB_n | apply inB_r | apply inB_e)
    | ((with_reducible apply Wo_gt); (exact rfl); ((conv => lhs; simp -implicitDefEqProofs [*]) <;> exact rfl); (conv => lhs; simp -implicitDefEqProofs [*]) <;> exact rfl)
    | ((with_reducible apply Wo_gf); (exact rfl); ((conv => lhs; simp -implicitDefEqProofs [*]) <;> exact rfl); (exact rfl))
    | ((with_reducible apply Wo_gx); (exact rfl); ((conv => lhs; simp -implicitDefEqProofs [*]) <;> exact rfl))
    | ((with_reducible apply Wo_gsT); (exact rfl); ((conv => lhs; simp -implicitDefEqProofs [*]) <;> exact rfl))
    | ((with_reducible apply Wo_gsF); (exact rfl); ((conv => lhs; simp -implicitDefEqProofs [*]) <;> exact rfl))
    | ((with_reducible apply Wd_gsT); (exact rfl); ((conv => lhs; simp -implicitDefEqProofs [*]) <;> exact rfl))
    | ((with_reducible apply Wd_gsF); (exact rfl); ((conv => lhs; simp -implicitDefEqProofs [*]) <;> exact rfl))
    | ((with_reducible first | apply W_srdl | apply W_rdl); kernel_rfl)
    | ((with_reducible apply Wd_nil); exact rfl)
    | ((with_reducible apply inB_o); rotate_left; exact rfl)
    | (intro h h'; try simp [*, -h] at h'))
  all_goals rfl
set_option maxHeartbeats 4000000 in
theorem d8_long (l : List Int) (hl : 1000 < l.length) : (lim Tryz.prog E47 X47).dat 9 [.sl false 1 (rowW l)] = some [.sc (.string ⟨#[]⟩), iv 2] := by
  refine fnW Tryz.func9 rfl rfl bodyOk_9 rfl rtys_9 rfl ?_
  have n1 : (1000 : Int) < l.length := by omega
  repeat' (first
    | ((with_reducible first | apply Wo_u | apply Wo_n | apply ex2 | apply W_sc | apply W_c | apply Wd_u | apply Wd_n | apply ex4 | apply EndQ_ret | apply EndQ_normal); (conv => lhs; simp -implicitDefEqProofs [*]) <;> exact rfl)
    | (with_reducible first | apply Wo_nil | apply W_ss | apply W_srl | apply W_rl | apply W_sblock | apply W_block | apply W_sskip | apply W_skip | apply W_sret | apply W_ret | apply W_sexit | apply W_exit | apply thenW_n | apply thenW_r | apply thenW_e | apply inB_n | apply inB_r | apply inB_e)
    | ((with_reducible apply Wo_gt); (exact rfl); ((conv => lhs; simp -implicitDefEqProofs [*]) <;> exact rfl); (conv => lhs; simp -implicitDefEqProofs [*]) <;> exact rfl)
    | ((with_reducible apply Wo_gf); (exact rfl); ((conv => lhs; simp -implicitDefEqProofs [*]) <;> exact rfl); (exact rfl))
    | ((with_reducible apply Wo_gx); (exact rfl); ((conv => lhs; simp -implicitDefEqProofs [*]) <;> exact rfl))
    | ((with_reducible apply Wo_gsT); (exact rfl); ((conv => lhs; simp -implicitDefEqProofs [*]) <;> exact rfl))
    | ((with_reducible apply Wo_gsF); (exact rfl); ((conv => lhs; simp -implicitDefEqProofs [*]) <;> exact rfl))
    | ((with_reducible apply Wd_gsT); (exact rfl); ((conv => lhs; simp -implicitDefEqProofs [*]) <;> exact rfl))
    | ((with_reducible apply Wd_gsF); (exact rfl); ((conv => lhs; simp -implicitDefEqProofs [*]) <;> exact rfl))
    | ((with_reducible first | apply W_srdl | apply W_rdl); kernel_rfl)
    | ((with_reducible apply Wd_nil); exact rfl)
    | ((with_reducible apply inB_o); rotate_left; exact rfl)
    | (intro h h'; try simp [*, -h] at h'))
  all_goals rfl
end Go.Proofs.YtdokejnokhicbaaGreatDoor
