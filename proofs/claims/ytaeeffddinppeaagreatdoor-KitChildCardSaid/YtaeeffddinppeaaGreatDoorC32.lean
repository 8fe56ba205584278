/- A part of the proof: Kf, Kg, Kh, Ki, Kj, Kk, Kl. -/
import Derived.Test.YtaeeffddinppeaaGreatDoorC25
set_option linter.unusedSimpArgs false
set_option linter.unusedVariables false
namespace Go.Proofs.YtaeeffddinppeaaGreatDoor
open Go Go.Ab
structure Ins where
  (op a b c : Int)
@[simp] def Ins.row (i : Ins) : List AV := [iv i.op, iv i.a, iv i.b, iv i.c]
def Ins.enc (i : Ins) : Int := i.op * 16777216 + i.a * 1048576 + i.b * 65536 + i.c
def mI (N : Int) : List Ins := [⟨1, 1, 0, 83⟩, ⟨24, 1, 0, 0⟩, ⟨1, 1, 0, 69⟩, ⟨24, 1, 0, 0⟩, ⟨24, 1, 0, 0⟩, ⟨1, 1, 0, 68⟩, ⟨24, 1, 0, 0⟩, ⟨1, 8, 0, 8⟩, ⟨1, 7, 0, 1⟩, ⟨1, 4, 0, N⟩, ⟨3, 2, 4, 0⟩, ⟨21, 15, 0, 19⟩, ⟨21, 15, 0, 19⟩, ⟨27, 2, 3, 0⟩, ⟨21, 15, 0, 19⟩, ⟨4, 3, 3, 7⟩, ⟨14, 5, 3, 4⟩, ⟨20, 5, 0, 13⟩, ⟨26, 0, 0, 0⟩, ⟨24, 2, 0, 0⟩, ⟨13, 2, 2, 8⟩, ⟨24, 2, 0, 0⟩, ⟨13, 2, 2, 8⟩, ⟨24, 2, 0, 0⟩, ⟨13, 2, 2, 8⟩, ⟨24, 2, 0, 0⟩, ⟨13, 2, 2, 8⟩, ⟨22, 15, 0, 0⟩]
def mcode (N : Int) : List Int := (mI N).map Ins.enc
theorem e33_1_1_0_83 : (lim Tryz.prog E47 X47).dat 97 [.agg [iv 1, iv 1, iv 0, iv 83]] = some [uv 17825875, iv 0] := lim_dat.2 ⟨100, by kernel_rfl⟩
theorem e33_24_1_0_0 : (lim Tryz.prog E47 X47).dat 97 [.agg [iv 24, iv 1, iv 0, iv 0]] = some [uv 403701760, iv 0] := lim_dat.2 ⟨100, by kernel_rfl⟩
theorem e33_1_1_0_69 : (lim Tryz.prog E47 X47).dat 97 [.agg [iv 1, iv 1, iv 0, iv 69]] = some [uv 17825861, iv 0] := lim_dat.2 ⟨100, by kernel_rfl⟩
theorem e33_1_1_0_68 : (lim Tryz.prog E47 X47).dat 97 [.agg [iv 1, iv 1, iv 0, iv 68]] = some [uv 17825860, iv 0] := lim_dat.2 ⟨100, by kernel_rfl⟩
theorem e33_1_8_0_8 : (lim Tryz.prog E47 X47).dat 97 [.agg [iv 1, iv 8, iv 0, iv 8]] = some [uv 25165832, iv 0] := lim_dat.2 ⟨100, by kernel_rfl⟩
theorem e33_1_7_0_1 : (lim Tryz.prog E47 X47).dat 97 [.agg [iv 1, iv 7, iv 0, iv 1]] = some [uv 24117249, iv 0] := lim_dat.2 ⟨100, by kernel_rfl⟩
theorem e33_3_2_4_0 : (lim Tryz.prog E47 X47).dat 97 [.agg [iv 3, iv 2, iv 4, iv 0]] = some [uv 52690944, iv 0] := lim_dat.2 ⟨100, by kernel_rfl⟩
theorem e33_21_15_0_19 : (lim Tryz.prog E47 X47).dat 97 [.agg [iv 21, iv 15, iv 0, iv 19]] = some [uv 368050195, iv 0] := lim_dat.2 ⟨100, by kernel_rfl⟩
theorem e33_27_2_3_0 : (lim Tryz.prog E47 X47).dat 97 [.agg [iv 27, iv 2, iv 3, iv 0]] = some [uv 455278592, iv 0] := lim_dat.2 ⟨100, by kernel_rfl⟩
theorem e33_4_3_3_7 : (lim Tryz.prog E47 X47).dat 97 [.agg [iv 4, iv 3, iv 3, iv 7]] = some [uv 70451207, iv 0] := lim_dat.2 ⟨100, by kernel_rfl⟩
theorem e33_14_5_3_4 : (lim Tryz.prog E47 X47).dat 97 [.agg [iv 14, iv 5, iv 3, iv 4]] = some [uv 240320516, iv 0] := lim_dat.2 ⟨100, by kernel_rfl⟩
theorem e33_20_5_0_13 : (lim Tryz.prog E47 X47).dat 97 [.agg [iv 20, iv 5, iv 0, iv 13]] = some [uv 340787213, iv 0] := lim_dat.2 ⟨100, by kernel_rfl⟩
theorem e33_26_0_0_0 : (lim Tryz.prog E47 X47).dat 97 [.agg [iv 26, iv 0, iv 0, iv 0]] = some [uv 436207616, iv 0] := lim_dat.2 ⟨100, by kernel_rfl⟩
theorem e33_24_2_0_0 : (lim Tryz.prog E47 X47).dat 97 [.agg [iv 24, iv 2, iv 0, iv 0]] = some [uv 404750336, iv 0] := lim_dat.2 ⟨100, by kernel_rfl⟩
theorem e33_13_2_2_8 : (lim Tryz.prog E47 X47).dat 97 [.agg [iv 13, iv 2, iv 2, iv 8]] = some [uv 220332040, iv 0] := lim_dat.2 ⟨100, by kernel_rfl⟩
theorem e33_22_15_0_0 : (lim Tryz.prog E47 X47).dat 97 [.agg [iv 22, iv 15, iv 0, iv 0]] = some [uv 384827392, iv 0] := lim_dat.2 ⟨100, by kernel_rfl⟩
theorem e33_N28 : (lim Tryz.prog E47 X47).dat 97 [.agg [iv 1, iv 4, iv 0, iv 28]] = some [uv 20971548, iv 0] := lim_dat.2 ⟨100, by kernel_rfl⟩
theorem e33_N29 : (lim Tryz.prog E47 X47).dat 97 [.agg [iv 1, iv 4, iv 0, iv 29]] = some [uv 20971549, iv 0] := lim_dat.2 ⟨100, by kernel_rfl⟩
theorem e33_N30 : (lim Tryz.prog E47 X47).dat 97 [.agg [iv 1, iv 4, iv 0, iv 30]] = some [uv 20971550, iv 0] := lim_dat.2 ⟨100, by kernel_rfl⟩
theorem e33_N31 : (lim Tryz.prog E47 X47).dat 97 [.agg [iv 1, iv 4, iv 0, iv 31]] = some [uv 20971551, iv 0] := lim_dat.2 ⟨100, by kernel_rfl⟩
theorem e33_N32 : (lim Tryz.prog E47 X47).dat 97 [.agg [iv 1, iv 4, iv 0, iv 32]] = some [uv 20971552, iv 0] := lim_dat.2 ⟨100, by kernel_rfl⟩
theorem e33_N33 : (lim Tryz.prog E47 X47).dat 97 [.agg [iv 1, iv 4, iv 0, iv 33]] = some [uv 20971553, iv 0] := lim_dat.2 ⟨100, by kernel_rfl⟩
theorem e33_N34 : (lim Tryz.prog E47 X47).dat 97 [.agg [iv 1, iv 4, iv 0, iv 34]] = some [uv 20971554, iv 0] := lim_dat.2 ⟨100, by kernel_rfl⟩
theorem e33_N35 : (lim Tryz.prog E47 X47).dat 97 [.agg [iv 1, iv 4, iv 0, iv 35]] = some [uv 20971555, iv 0] := lim_dat.2 ⟨100, by kernel_rfl⟩
theorem e33_N36 : (lim Tryz.prog E47 X47).dat 97 [.agg [iv 1, iv 4, iv 0, iv 36]] = some [uv 20971556, iv 0] := lim_dat.2 ⟨100, by kernel_rfl⟩
theorem e33_N37 : (lim Tryz.prog E47 X47).dat 97 [.agg [iv 1, iv 4, iv 0, iv 37]] = some [uv 20971557, iv 0] := lim_dat.2 ⟨100, by kernel_rfl⟩
theorem e33_N38 : (lim Tryz.prog E47 X47).dat 97 [.agg [iv 1, iv 4, iv 0, iv 38]] = some [uv 20971558, iv 0] := lim_dat.2 ⟨100, by kernel_rfl⟩
theorem e33_N39 : (lim Tryz.prog E47 X47).dat 97 [.agg [iv 1, iv 4, iv 0, iv 39]] = some [uv 20971559, iv 0] := lim_dat.2 ⟨100, by kernel_rfl⟩
theorem e33_N40 : (lim Tryz.prog E47 X47).dat 97 [.agg [iv 1, iv 4, iv 0, iv 40]] = some [uv 20971560, iv 0] := lim_dat.2 ⟨100, by kernel_rfl⟩
theorem e33_N41 : (lim Tryz.prog E47 X47).dat 97 [.agg [iv 1, iv 4, iv 0, iv 41]] = some [uv 20971561, iv 0] := lim_dat.2 ⟨100, by kernel_rfl⟩
theorem e33_N42 : (lim Tryz.prog E47 X47).dat 97 [.agg [iv 1, iv 4, iv 0, iv 42]] = some [uv 20971562, iv 0] := lim_dat.2 ⟨100, by kernel_rfl⟩
theorem e33_N43 : (lim Tryz.prog E47 X47).dat 97 [.agg [iv 1, iv 4, iv 0, iv 43]] = some [uv 20971563, iv 0] := lim_dat.2 ⟨100, by kernel_rfl⟩
theorem e33_N44 : (lim Tryz.prog E47 X47).dat 97 [.agg [iv 1, iv 4, iv 0, iv 44]] = some [uv 20971564, iv 0] := lim_dat.2 ⟨100, by kernel_rfl⟩
theorem e33_N45 : (lim Tryz.prog E47 X47).dat 97 [.agg [iv 1, iv 4, iv 0, iv 45]] = some [uv 20971565, iv 0] := lim_dat.2 ⟨100, by kernel_rfl⟩
theorem e33_N46 : (lim Tryz.prog E47 X47).dat 97 [.agg [iv 1, iv 4, iv 0, iv 46]] = some [uv 20971566, iv 0] := lim_dat.2 ⟨100, by kernel_rfl⟩
theorem e33_N47 : (lim Tryz.prog E47 X47).dat 97 [.agg [iv 1, iv 4, iv 0, iv 47]] = some [uv 20971567, iv 0] := lim_dat.2 ⟨100, by kernel_rfl⟩
theorem e33_N48 : (lim Tryz.prog E47 X47).dat 97 [.agg [iv 1, iv 4, iv 0, iv 48]] = some [uv 20971568, iv 0] := lim_dat.2 ⟨100, by kernel_rfl⟩
theorem e33_N49 : (lim Tryz.prog E47 X47).dat 97 [.agg [iv 1, iv 4, iv 0, iv 49]] = some [uv 20971569, iv 0] := lim_dat.2 ⟨100, by kernel_rfl⟩
theorem e33_N50 : (lim Tryz.prog E47 X47).dat 97 [.agg [iv 1, iv 4, iv 0, iv 50]] = some [uv 20971570, iv 0] := lim_dat.2 ⟨100, by kernel_rfl⟩
theorem e33_N51 : (lim Tryz.prog E47 X47).dat 97 [.agg [iv 1, iv 4, iv 0, iv 51]] = some [uv 20971571, iv 0] := lim_dat.2 ⟨100, by kernel_rfl⟩
theorem e33_N52 : (lim Tryz.prog E47 X47).dat 97 [.agg [iv 1, iv 4, iv 0, iv 52]] = some [uv 20971572, iv 0] := lim_dat.2 ⟨100, by kernel_rfl⟩
theorem e33_N53 : (lim Tryz.prog E47 X47).dat 97 [.agg [iv 1, iv 4, iv 0, iv 53]] = some [uv 20971573, iv 0] := lim_dat.2 ⟨100, by kernel_rfl⟩
theorem e33_N54 : (lim Tryz.prog E47 X47).dat 97 [.agg [iv 1, iv 4, iv 0, iv 54]] = some [uv 20971574, iv 0] := lim_dat.2 ⟨100, by kernel_rfl⟩
theorem e33_N55 : (lim Tryz.prog E47 X47).dat 97 [.agg [iv 1, iv 4, iv 0, iv 55]] = some [uv 20971575, iv 0] := lim_dat.2 ⟨100, by kernel_rfl⟩
theorem e33_N56 : (lim Tryz.prog E47 X47).dat 97 [.agg [iv 1, iv 4, iv 0, iv 56]] = some [uv 20971576, iv 0] := lim_dat.2 ⟨100, by kernel_rfl⟩
theorem e33_N57 : (lim Tryz.prog E47 X47).dat 97 [.agg [iv 1, iv 4, iv 0, iv 57]] = some [uv 20971577, iv 0] := lim_dat.2 ⟨100, by kernel_rfl⟩
theorem e33_N58 : (lim Tryz.prog E47 X47).dat 97 [.agg [iv 1, iv 4, iv 0, iv 58]] = some [uv 20971578, iv 0] := lim_dat.2 ⟨100, by kernel_rfl⟩
theorem e33_N59 : (lim Tryz.prog E47 X47).dat 97 [.agg [iv 1, iv 4, iv 0, iv 59]] = some [uv 20971579, iv 0] := lim_dat.2 ⟨100, by kernel_rfl⟩
theorem e33_N60 : (lim Tryz.prog E47 X47).dat 97 [.agg [iv 1, iv 4, iv 0, iv 60]] = some [uv 20971580, iv 0] := lim_dat.2 ⟨100, by kernel_rfl⟩
theorem e33_N61 : (lim Tryz.prog E47 X47).dat 97 [.agg [iv 1, iv 4, iv 0, iv 61]] = some [uv 20971581, iv 0] := lim_dat.2 ⟨100, by kernel_rfl⟩
theorem e33_N62 : (lim Tryz.prog E47 X47).dat 97 [.agg [iv 1, iv 4, iv 0, iv 62]] = some [uv 20971582, iv 0] := lim_dat.2 ⟨100, by kernel_rfl⟩
theorem e33_N63 : (lim Tryz.prog E47 X47).dat 97 [.agg [iv 1, iv 4, iv 0, iv 63]] = some [uv 20971583, iv 0] := lim_dat.2 ⟨100, by kernel_rfl⟩
theorem e33_N64 : (lim Tryz.prog E47 X47).dat 97 [.agg [iv 1, iv 4, iv 0, iv 64]] = some [uv 20971584, iv 0] := lim_dat.2 ⟨100, by kernel_rfl⟩
theorem e33_N65 : (lim Tryz.prog E47 X47).dat 97 [.agg [iv 1, iv 4, iv 0, iv 65]] = some [uv 20971585, iv 0] := lim_dat.2 ⟨100, by kernel_rfl⟩
theorem e33_N66 : (lim Tryz.prog E47 X47).dat 97 [.agg [iv 1, iv 4, iv 0, iv 66]] = some [uv 20971586, iv 0] := lim_dat.2 ⟨100, by kernel_rfl⟩
theorem e33_N67 : (lim Tryz.prog E47 X47).dat 97 [.agg [iv 1, iv 4, iv 0, iv 67]] = some [uv 20971587, iv 0] := lim_dat.2 ⟨100, by kernel_rfl⟩
theorem e33_N68 : (lim Tryz.prog E47 X47).dat 97 [.agg [iv 1, iv 4, iv 0, iv 68]] = some [uv 20971588, iv 0] := lim_dat.2 ⟨100, by kernel_rfl⟩
theorem e33_N69 : (lim Tryz.prog E47 X47).dat 97 [.agg [iv 1, iv 4, iv 0, iv 69]] = some [uv 20971589, iv 0] := lim_dat.2 ⟨100, by kernel_rfl⟩
theorem e33_N70 : (lim Tryz.prog E47 X47).dat 97 [.agg [iv 1, iv 4, iv 0, iv 70]] = some [uv 20971590, iv 0] := lim_dat.2 ⟨100, by kernel_rfl⟩
theorem e33_N71 : (lim Tryz.prog E47 X47).dat 97 [.agg [iv 1, iv 4, iv 0, iv 71]] = some [uv 20971591, iv 0] := lim_dat.2 ⟨100, by kernel_rfl⟩
theorem e33_N72 : (lim Tryz.prog E47 X47).dat 97 [.agg [iv 1, iv 4, iv 0, iv 72]] = some [uv 20971592, iv 0] := lim_dat.2 ⟨100, by kernel_rfl⟩
theorem e33_N73 : (lim Tryz.prog E47 X47).dat 97 [.agg [iv 1, iv 4, iv 0, iv 73]] = some [uv 20971593, iv 0] := lim_dat.2 ⟨100, by kernel_rfl⟩
theorem e33_N74 : (lim Tryz.prog E47 X47).dat 97 [.agg [iv 1, iv 4, iv 0, iv 74]] = some [uv 20971594, iv 0] := lim_dat.2 ⟨100, by kernel_rfl⟩
theorem e33_N75 : (lim Tryz.prog E47 X47).dat 97 [.agg [iv 1, iv 4, iv 0, iv 75]] = some [uv 20971595, iv 0] := lim_dat.2 ⟨100, by kernel_rfl⟩
theorem e33_N76 : (lim Tryz.prog E47 X47).dat 97 [.agg [iv 1, iv 4, iv 0, iv 76]] = some [uv 20971596, iv 0] := lim_dat.2 ⟨100, by kernel_rfl⟩
theorem e33_N77 : (lim Tryz.prog E47 X47).dat 97 [.agg [iv 1, iv 4, iv 0, iv 77]] = some [uv 20971597, iv 0] := lim_dat.2 ⟨100, by kernel_rfl⟩
theorem e33_N78 : (lim Tryz.prog E47 X47).dat 97 [.agg [iv 1, iv 4, iv 0, iv 78]] = some [uv 20971598, iv 0] := lim_dat.2 ⟨100, by kernel_rfl⟩
theorem e33_N79 : (lim Tryz.prog E47 X47).dat 97 [.agg [iv 1, iv 4, iv 0, iv 79]] = some [uv 20971599, iv 0] := lim_dat.2 ⟨100, by kernel_rfl⟩
theorem e33_N80 : (lim Tryz.prog E47 X47).dat 97 [.agg [iv 1, iv 4, iv 0, iv 80]] = some [uv 20971600, iv 0] := lim_dat.2 ⟨100, by kernel_rfl⟩
theorem e33_N81 : (lim Tryz.prog E47 X47).dat 97 [.agg [iv 1, iv 4, iv 0, iv 81]] = some [uv 20971601, iv 0] := lim_dat.2 ⟨100, by kernel_rfl⟩
theorem e33_N82 : (lim Tryz.prog E47 X47).dat 97 [.agg [iv 1, iv 4, iv 0, iv 82]] = some [uv 20971602, iv 0] := lim_dat.2 ⟨100, by kernel_rfl⟩
theorem e33_N83 : (lim Tryz.prog E47 X47).dat 97 [.agg [iv 1, iv 4, iv 0, iv 83]] = some [uv 20971603, iv 0] := lim_dat.2 ⟨100, by kernel_rfl⟩
theorem e33_N84 : (lim Tryz.prog E47 X47).dat 97 [.agg [iv 1, iv 4, iv 0, iv 84]] = some [uv 20971604, iv 0] := lim_dat.2 ⟨100, by kernel_rfl⟩
theorem e33_N85 : (lim Tryz.prog E47 X47).dat 97 [.agg [iv 1, iv 4, iv 0, iv 85]] = some [uv 20971605, iv 0] := lim_dat.2 ⟨100, by kernel_rfl⟩
theorem e33_N86 : (lim Tryz.prog E47 X47).dat 97 [.agg [iv 1, iv 4, iv 0, iv 86]] = some [uv 20971606, iv 0] := lim_dat.2 ⟨100, by kernel_rfl⟩
theorem e33_N87 : (lim Tryz.prog E47 X47).dat 97 [.agg [iv 1, iv 4, iv 0, iv 87]] = some [uv 20971607, iv 0] := lim_dat.2 ⟨100, by kernel_rfl⟩
theorem e33_N88 : (lim Tryz.prog E47 X47).dat 97 [.agg [iv 1, iv 4, iv 0, iv 88]] = some [uv 20971608, iv 0] := lim_dat.2 ⟨100, by kernel_rfl⟩
theorem e33_N (n : Nat) (h0 : 28 ≤ n) (h1 : n ≤ 88) : (lim Tryz.prog E47 X47).dat 97 [.agg [iv 1, iv 4, iv 0, iv n]] = some [uv (20971520 + n), iv 0] := by
  have h : n = 28 ∨ n = 29 ∨ n = 30 ∨ n = 31 ∨ n = 32 ∨ n = 33 ∨ n = 34 ∨ n = 35 ∨ n = 36 ∨ n = 37 ∨ n = 38 ∨ n = 39 ∨ n = 40 ∨ n = 41 ∨ n = 42 ∨ n = 43 ∨ n = 44 ∨ n = 45 ∨ n = 46 ∨ n = 47 ∨ n = 48 ∨ n = 49 ∨ n = 50 ∨ n = 51 ∨ n = 52 ∨ n = 53 ∨ n = 54 ∨ n = 55 ∨ n = 56 ∨ n = 57 ∨ n = 58 ∨ n = 59 ∨ n = 60 ∨ n = 61 ∨ n = 62 ∨ n = 63 ∨ n = 64 ∨ n = 65 ∨ n = 66 ∨ n = 67 ∨ n = 68 ∨ n = 69 ∨ n = 70 ∨ n = 71 ∨ n = 72 ∨ n = 73 ∨ n = 74 ∨ n = 75 ∨ n = 76 ∨ n = 77 ∨ n = 78 ∨ n = 79 ∨ n = 80 ∨ n = 81 ∨ n = 82 ∨ n = 83 ∨ n = 84 ∨ n = 85 ∨ n = 86 ∨ n = 87 ∨ n = 88 := by omega
  rcases h with rfl | rfl | rfl | rfl | rfl | rfl | rfl | rfl | rfl | rfl | rfl | rfl | rfl | rfl | rfl | rfl | rfl | rfl | rfl | rfl | rfl | rfl | rfl | rfl | rfl | rfl | rfl | rfl | rfl | rfl | rfl | rfl | rfl | rfl | rfl | rfl | rfl | rfl | rfl | rfl | rfl | rfl | rfl | rfl | rfl | rfl | rfl | rfl | rfl | rfl | rfl | rfl | rfl | rfl | rfl | rfl | rfl | rfl | rfl | rfl | rfl
  · exact e33_N28
  · exact e33_N29
  · exact e33_N30
  · exact e33_N31
  · exact e33_N32
  · exact e33_N33
  · exact e33_N34
  · exact e33_N35
  · exact e33_N36
  · exact e33_N37
  · exact e33_N38
  · exact e33_N39
  · exact e33_N40
  · exact e33_N41
  · exact e33_N42
  · exact e33_N43
  · exact e33_N44
  · exact e33_N45
  · exact e33_N46
  · exact e33_N47
  · exact e33_N48
  · exact e33_N49
  · exact e33_N50
  · exact e33_N51
  · exact e33_N52
  · exact e33_N53
  · exact e33_N54
  · exact e33_N55
  · exact e33_N56
  · exact e33_N57
  · exact e33_N58
  · exact e33_N59
  · exact e33_N60
  · exact e33_N61
  · exact e33_N62
  · exact e33_N63
  · exact e33_N64
  · exact e33_N65
  · exact e33_N66
  · exact e33_N67
  · exact e33_N68
  · exact e33_N69
  · exact e33_N70
  · exact e33_N71
  · exact e33_N72
  · exact e33_N73
  · exact e33_N74
  · exact e33_N75
  · exact e33_N76
  · exact e33_N77
  · exact e33_N78
  · exact e33_N79
  · exact e33_N80
  · exact e33_N81
  · exact e33_N82
  · exact e33_N83
  · exact e33_N84
  · exact e33_N85
  · exact e33_N86
  · exact e33_N87
  · exact e33_N88
theorem enc_all (n : Nat) (h0 : 28 ≤ n) (h1 : n ≤ 88) : ∀ i ∈ mI n, (lim Tryz.prog E47 X47).dat 97 [.agg i.row] = some [uv i.enc, iv 0] := fun i h => by
  simp only [mI, List.mem_cons, List.not_mem_nil, or_false] at h
  rcases h with rfl | rfl | rfl | rfl | rfl | rfl | rfl | rfl | rfl | rfl | rfl | rfl | rfl | rfl | rfl | rfl | rfl | rfl | rfl | rfl | rfl | rfl | rfl | rfl | rfl | rfl | rfl | rfl
  · exact e33_1_1_0_83
  · exact e33_24_1_0_0
  · exact e33_1_1_0_69
  · exact e33_24_1_0_0
  · exact e33_24_1_0_0
  · exact e33_1_1_0_68
  · exact e33_24_1_0_0
  · exact e33_1_8_0_8
  · exact e33_1_7_0_1
  · exact e33_N n h0 h1
  · exact e33_3_2_4_0
  · exact e33_21_15_0_19
  · exact e33_21_15_0_19
  · exact e33_27_2_3_0
  · exact e33_21_15_0_19
  · exact e33_4_3_3_7
  · exact e33_14_5_3_4
  · exact e33_20_5_0_13
  · exact e33_26_0_0_0
  · exact e33_24_2_0_0
  · exact e33_13_2_2_8
  · exact e33_24_2_0_0
  · exact e33_13_2_2_8
  · exact e33_24_2_0_0
  · exact e33_13_2_2_8
  · exact e33_24_2_0_0
  · exact e33_13_2_2_8
  · exact e33_22_15_0_0
end Go.Proofs.YtaeeffddinppeaaGreatDoor
namespace Go.Proofs.YtaeeffddinppeaaGreatDoor
open Go Go.Ab
def encs (l : List Ins) : List Int := l.map Ins.enc
@[simp] theorem encs_len (l : List Ins) : (encs l).length = l.length := List.length_map ..
@[simp] theorem encs_nil : encs [] = [] := rfl
theorem enc_snoc {l : List Ins} {k : Nat} {i : Ins} (h : l[k]? = some i) : rowW (encs (l.take k)) ++ [[uv i.enc]] = rowW (encs (l.take (k + 1))) := by
  unfold encs; rw [List.take_add_one, h]; simp
set_option maxHeartbeats 4000000 in
theorem d24 (l : List Ins) (hl : l.length ≤ 1048576) (he : ∀ i ∈ l, (lim Tryz.prog E47 X47).dat 97 [.agg i.row] = some [uv i.enc, iv 0]) : (lim Tryz.prog E47 X47).dat 64 [.sl false 4 (l.map Ins.row)] = some [.vec 1 (rowW (encs l)), iv 0] := by
  refine fnW Tryz.func64 rfl rfl bodyOk_64 rfl rtys_64 rfl ?_
  have n1 : 4 * l.length ≤ 140737488355328 := by omega
  have n2 : l.length ≤ 140737488355328 := by omega
  have n3 : (l.length : Int) * 4 ≤ 140737488355328 := by omega
  have n4 : (l.length : Int) ≤ 9223372036854775807 := by omega
  repeat' (first | ((with_reducible first | apply Wo_u | apply Wo_n | apply ex2 | apply W_sc | apply W_c | apply Wd_u | apply Wd_n | apply ex4 | apply EndQ_ret | apply EndQ_normal); (conv => lhs; simp -implicitDefEqProofs [*]) <;> exact rfl) | (with_reducible first | apply Wo_nil | apply W_ss | apply W_srl | apply W_rl | apply W_sblock | apply W_block | apply W_sskip | apply W_skip | apply W_sret | apply W_ret | apply W_sexit | apply W_exit | apply thenW_n | apply thenW_r | apply thenW_e | apply inB_n | apply inB_r | apply inB_e) | ((with_reducible apply Wo_gt); (exact rfl); ((conv => lhs; simp -implicitDefEqProofs [*]) <;> exact rfl); (conv => lhs; simp -implicitDefEqProofs [*]) <;> exact rfl) | ((with_reducible apply Wo_gf); (exact rfl); ((conv => lhs; simp -implicitDefEqProofs [*]) <;> exact rfl); (exact rfl)) | ((with_reducible apply Wo_gx); (exact rfl); ((conv => lhs; simp -implicitDefEqProofs [*]) <;> exact rfl)) | ((with_reducible apply Wo_gsT); (exact rfl); ((conv => lhs; simp -implicitDefEqProofs [*]) <;> exact rfl)) | ((with_reducible apply Wo_gsF); (exact rfl); ((conv => lhs; simp -implicitDefEqProofs [*]) <;> exact rfl)) | ((with_reducible apply Wd_gsT); (exact rfl); ((conv => lhs; simp -implicitDefEqProofs [*]) <;> exact rfl)) | ((with_reducible apply Wd_gsF); (exact rfl); ((conv => lhs; simp -implicitDefEqProofs [*]) <;> exact rfl)) | ((with_reducible first | apply W_srdl | apply W_rdl); kernel_rfl) | ((with_reducible apply Wd_nil); exact rfl) | ((with_reducible apply inB_o); rotate_left; exact rfl) | (intro h h'; try simp [*, -h] at h'))
  refine W_loopS (n := l.length) (fun s0 m q => ∃ k g : Nat, m = l.length - k ∧ k ≤ l.length ∧ q.fr 14 = iv k ∧ q.fr 12 = s0.fr 12 ∧ q.fr 13 = s0.fr 13 ∧ q.fr 4 = .own ⟨0, 11, 0⟩ g k ∧ q.hp ⟨0, 11, 0⟩ = .arr g 1 32 (rowW (encs (l.take k))) false) ⟨0, 1, by simp, by omega, by simp, by simp, by simp, by simp, by simp⟩ ?_
  rintro m ⟨fr, hp⟩ ⟨k, g, rfl, hk, hs14, hs12, hs13, hs4, hh⟩
  simp at hs14 hs12 hs13 hs4 hh
  by_cases hlt : k < l.length
  · have hg := List.getElem?_eq_getElem hlt
    have hw := wrapN (k := k) (by omega)
    have hi := he _ (List.getElem_mem hlt)
    have hap := enc_snoc hg
    obtain ⟨i, hwl⟩ : ∃ i, l[k] = i := ⟨_, rfl⟩
    rw [hwl] at hg hi hap
    have hwe : ∀ h, l[k]'h = i := fun _ => hwl
    clear he
    have hg2 : (l.map Ins.row)[k]? = some i.row := by rw [List.getElem?_map, hg]; rfl
    have hlI : (k : Int) < l.length := by omega
    have b1 : (k + 1) * 4 ≤ 140737488355328 := by omega
    have b2 : k ≤ 9223372036854775806 := by omega
    simp only [Ins.row] at hi
    repeat' (first | ((with_reducible first | apply Wo_u | apply Wo_n | apply ex2 | apply W_sc | apply W_c | apply Wd_u | apply Wd_n | apply ex4 | apply EndQ_ret | apply EndQ_normal); (conv => lhs; simp -implicitDefEqProofs [*]) <;> exact rfl) | (with_reducible first | apply Wo_nil | apply W_ss | apply W_srl | apply W_rl | apply W_sblock | apply W_block | apply W_sskip | apply W_skip | apply W_sret | apply W_ret | apply W_sexit | apply W_exit | apply thenW_n | apply thenW_r | apply thenW_e | apply inB_n | apply inB_r | apply inB_e) | ((with_reducible apply Wo_gt); (exact rfl); ((conv => lhs; simp -implicitDefEqProofs [*]) <;> exact rfl); (conv => lhs; simp -implicitDefEqProofs [*]) <;> exact rfl) | ((with_reducible apply Wo_gf); (exact rfl); ((conv => lhs; simp -implicitDefEqProofs [*]) <;> exact rfl); (exact rfl)) | ((with_reducible apply Wo_gx); (exact rfl); ((conv => lhs; simp -implicitDefEqProofs [*]) <;> exact rfl)) | ((with_reducible apply Wo_gsT); (exact rfl); ((conv => lhs; simp -implicitDefEqProofs [*]) <;> exact rfl)) | ((with_reducible apply Wo_gsF); (exact rfl); ((conv => lhs; simp -implicitDefEqProofs [*]) <;> exact rfl)) | ((with_reducible apply Wd_gsT); (exact rfl); ((conv => lhs; simp -implicitDefEqProofs [*]) <;> exact rfl)) | ((with_reducible apply Wd_gsF); (exact rfl); ((conv => lhs; simp -implicitDefEqProofs [*]) <;> exact rfl)) | ((with_reducible first | apply W_srdl | apply W_rdl); kernel_rfl) | ((with_reducible apply Wd_nil); exact rfl) | ((with_reducible apply inB_o); rotate_left; exact rfl) | (intro h h'; try simp [*, -h] at h'))
    exact ⟨_, by omega, k + 1, g + 1, rfl, hlt, by simp, by simp [*], by simp [*], by simp [*], by simp [*]⟩
  · obtain rfl : k = l.length := by omega
    have hta : l.take l.length = l := List.take_of_length_le (Nat.le_refl _)
    have htk : (rowW (encs l)).take l.length = rowW (encs l) := List.take_of_length_le (by simp)
    rw [hta] at hh
    exact step8
set_option maxHeartbeats 8000000 in
theorem d18 (n : Nat) (h0 : 28 ≤ n) (h1 : n ≤ 88) : (lim Tryz.prog E47 X47).dat 37 [iv n] = some [.vec 1 (rowW (mcode n)), iv 0] := by
  refine fnW Tryz.func37 rfl rfl bodyOk_37 rfl rtys_37 rfl ?_
  have h24 := d24 (mI n) (by simp [mI]) (enc_all n h0 h1)
  rw [show (mI n).map Ins.row = [[iv 1, iv 1, iv 0, iv 83], [iv 24, iv 1, iv 0, iv 0], [iv 1, iv 1, iv 0, iv 69], [iv 24, iv 1, iv 0, iv 0], [iv 24, iv 1, iv 0, iv 0], [iv 1, iv 1, iv 0, iv 68], [iv 24, iv 1, iv 0, iv 0], [iv 1, iv 8, iv 0, iv 8], [iv 1, iv 7, iv 0, iv 1], [iv 1, iv 4, iv 0, iv n], [iv 3, iv 2, iv 4, iv 0], [iv 21, iv 15, iv 0, iv 19], [iv 21, iv 15, iv 0, iv 19], [iv 27, iv 2, iv 3, iv 0], [iv 21, iv 15, iv 0, iv 19], [iv 4, iv 3, iv 3, iv 7], [iv 14, iv 5, iv 3, iv 4], [iv 20, iv 5, iv 0, iv 13], [iv 26, iv 0, iv 0, iv 0], [iv 24, iv 2, iv 0, iv 0], [iv 13, iv 2, iv 2, iv 8], [iv 24, iv 2, iv 0, iv 0], [iv 13, iv 2, iv 2, iv 8], [iv 24, iv 2, iv 0, iv 0], [iv 13, iv 2, iv 2, iv 8], [iv 24, iv 2, iv 0, iv 0], [iv 13, iv 2, iv 2, iv 8], [iv 22, iv 15, iv 0, iv 0]] from rfl] at h24
  rw [show mcode n = encs (mI n) from rfl]
  generalize encs (mI n) = r at h24
  exact step8
theorem mcode_U (n : Nat) (h : n ≤ 88) : ∀ x ∈ mcode n, U x := by
  intro x hx
  unfold U
  simp only [mcode, mI, List.map_cons, List.map_nil, List.mem_cons, List.not_mem_nil, or_false, Ins.enc] at hx
  omega
theorem mcode_len (n : Int) : (mcode n).length = 28 := by simp [mcode, mI]
def mirC (l : List Int) : List Int := mcode ((28 + l.length : Nat) : Int) ++ l
theorem mirC_len (l : List Int) : (mirC l).length = 28 + l.length := by simp [mirC, mcode_len]
theorem mirC_U (l : List Int) (h : l.length ≤ 60) (hU : ∀ x ∈ l, U x) : ∀ x ∈ mirC l, U x := by
  intro x hx
  rcases List.mem_append.1 hx with h1 | h1
  · exact mcode_U (28 + l.length) (by omega) x h1
  · exact hU x h1
set_option maxHeartbeats 4000000 in
theorem d8 (l : List Int) (hl : l.length ≤ 60) (hU : ∀ x ∈ l, U x) : (lim Tryz.prog E47 X47).dat 14 [.sl false 1 (rowW l)] = some [.sc (.string (txtI (mirC l) 0)), iv 0] := by
  refine fnW Tryz.func14 rfl rfl bodyOk_14 rfl rtys_14 rfl ?_
  have h18 := d18 (28 + l.length) (by omega) (by omega)
  have h19 := d19 (mirC l) 0 (by rw [mirC_len]; omega) ⟨by omega, by omega⟩ (mirC_U l hl hU)
  have n1 : ¬ (1000 : Int) < l.length := by omega
  have hw : IntKind.i64.wrap (28 + (l.length : Int)) = 28 + (l.length : Int) := wrap64 (by omega) (by omega)
  have hap : rowW (mcode (28 + (l.length : Int))) ++ rowW l = rowW (mirC l) := by simp [mirC]
  have hml := mcode_len (28 + (l.length : Int))
  simp only [Int.natCast_add, Int.cast_ofNat_Int] at h18
  generalize mirC l = r at h19 hap
  generalize mcode (28 + (l.length : Int)) = q at h18 hap hml
  have b1 : (28 + l.length) * 4 ≤ 140737488355328 := by omega
  have b2 : 28 + l.length ≤ 9223372036854775807 := by omega
  have hrl : r.length = 28 + l.length := by have := congrArg List.length hap; simp at this; omega
  have htk : (rowW r).take (28 + l.length) = rowW r := List.take_of_length_le (by simp [hrl])
  clear hU
  exact step8
set_option maxHeartbeats 4000000 in
theorem d8_long (l : List Int) (hl : 1000 < l.length) : (lim Tryz.prog E47 X47).dat 14 [.sl false 1 (rowW l)] = some [.sc (.string ⟨#[]⟩), iv 2] := by
  refine fnW Tryz.func14 rfl rfl bodyOk_14 rfl rtys_14 rfl ?_
  have n1 : (1000 : Int) < l.length := by omega
  exact step8
end Go.Proofs.YtaeeffddinppeaaGreatDoor
namespace Go.Proofs.YtaeeffddinppeaaGreatDoor
open Go Go.Ab
abbrev xv (n : Int) : AV := .sc (.int .u64 n)
set_option maxHeartbeats 1000000 in
theorem d51 (b : Bool)  : (lim Tryz.prog E47 X47).dat 290 [bv b] = some [uv (if b then 1 else 0)] := by
  refine fnW Tryz.func290 rfl rfl bodyOk_290 rfl rtys_290 rfl ?_
  cases b
  all_goals exact step8
def hf (w : Int) : Nat → Int
  | 0 => w
  | k + 1 => hf w k / 2
theorem hf_le {w : Int} (h : U w) : ∀ k, U (hf w k)
  | 0 => h
  | k + 1 => by
    have := hf_le h k
    unfold U at this ⊢
    simp only [hf]
    omega
set_option maxHeartbeats 4000000 in
theorem d50 (w : Int) (hU : U w) : (lim Tryz.prog E47 X47).dat 289 [iv 13, uv w, uv 8] = some [uv (w / 256)] := by
  refine fnW Tryz.func289 rfl rfl bodyOk_289 rfl rtys_289 rfl ?_
  have e0 : IntKind.u64.wrap w = w := by unfold U at hU; rw [IntKind.wrap_u64]; omega
  repeat' (first | ((with_reducible first | apply Wo_u | apply Wo_n | apply ex2 | apply W_sc | apply W_c | apply Wd_u | apply Wd_n | apply ex4 | apply EndQ_ret | apply EndQ_normal); (conv => lhs; simp -implicitDefEqProofs [*]) <;> exact rfl) | (with_reducible first | apply Wo_nil | apply W_ss | apply W_srl | apply W_rl | apply W_sblock | apply W_block | apply W_sskip | apply W_skip | apply W_sret | apply W_ret | apply W_sexit | apply W_exit | apply thenW_n | apply thenW_r | apply thenW_e | apply inB_n | apply inB_r | apply inB_e) | ((with_reducible apply Wo_gt); (exact rfl); ((conv => lhs; simp -implicitDefEqProofs [*]) <;> exact rfl); (conv => lhs; simp -implicitDefEqProofs [*]) <;> exact rfl) | ((with_reducible apply Wo_gf); (exact rfl); ((conv => lhs; simp -implicitDefEqProofs [*]) <;> exact rfl); (exact rfl)) | ((with_reducible apply Wo_gx); (exact rfl); ((conv => lhs; simp -implicitDefEqProofs [*]) <;> exact rfl)) | ((with_reducible apply Wo_gsT); (exact rfl); ((conv => lhs; simp -implicitDefEqProofs [*]) <;> exact rfl)) | ((with_reducible apply Wo_gsF); (exact rfl); ((conv => lhs; simp -implicitDefEqProofs [*]) <;> exact rfl)) | ((with_reducible apply Wd_gsT); (exact rfl); ((conv => lhs; simp -implicitDefEqProofs [*]) <;> exact rfl)) | ((with_reducible apply Wd_gsF); (exact rfl); ((conv => lhs; simp -implicitDefEqProofs [*]) <;> exact rfl)) | ((with_reducible first | apply W_srdl | apply W_rdl); kernel_rfl) | ((with_reducible apply Wd_nil); exact rfl) | ((with_reducible apply inB_o); rotate_left; exact rfl) | (intro h h'; try simp [*, -h] at h'))
  refine W_loopS (n := 8) (fun s0 m q => ∃ k : Nat, m = 8 - k ∧ k ≤ 8 ∧ q.fr 0 = s0.fr 0 ∧ q.fr 2 = s0.fr 2 ∧ q.fr 8 = uv k ∧ q.fr 7 = xv (hf w k)) ⟨0, by simp, by omega, by simp, by simp, by simp, by simp [hf]⟩ ?_
  rintro m ⟨fr, hp⟩ ⟨k, rfl, hk, hs0, hs2, hs8, hs7⟩
  simp at hs0 hs2 hs8 hs7
  by_cases hlt : k < 8
  · have hh := hf_le hU k
    unfold U at hh
    have e1 : IntKind.u64.wrap ((hf w k).tdiv 2) = hf w (k + 1) := by
      rw [Int.tdiv_eq_ediv_of_nonneg hh.1, IntKind.wrap_u64]
      simp only [hf]; omega
    have hw : IntKind.u32.wrap ((k : Int) + 1) = (k : Int) + 1 := by rw [IntKind.wrap_u32]; omega
    have hlI : (k : Int) < 8 := by omega
    repeat' (first | ((with_reducible first | apply Wo_u | apply Wo_n | apply ex2 | apply W_sc | apply W_c | apply Wd_u | apply Wd_n | apply ex4 | apply EndQ_ret | apply EndQ_normal); (conv => lhs; simp -implicitDefEqProofs [*]) <;> exact rfl) | (with_reducible first | apply Wo_nil | apply W_ss | apply W_srl | apply W_rl | apply W_sblock | apply W_block | apply W_sskip | apply W_skip | apply W_sret | apply W_ret | apply W_sexit | apply W_exit | apply thenW_n | apply thenW_r | apply thenW_e | apply inB_n | apply inB_r | apply inB_e) | ((with_reducible apply Wo_gt); (exact rfl); ((conv => lhs; simp -implicitDefEqProofs [*]) <;> exact rfl); (conv => lhs; simp -implicitDefEqProofs [*]) <;> exact rfl) | ((with_reducible apply Wo_gf); (exact rfl); ((conv => lhs; simp -implicitDefEqProofs [*]) <;> exact rfl); (exact rfl)) | ((with_reducible apply Wo_gx); (exact rfl); ((conv => lhs; simp -implicitDefEqProofs [*]) <;> exact rfl)) | ((with_reducible apply Wo_gsT); (exact rfl); ((conv => lhs; simp -implicitDefEqProofs [*]) <;> exact rfl)) | ((with_reducible apply Wo_gsF); (exact rfl); ((conv => lhs; simp -implicitDefEqProofs [*]) <;> exact rfl)) | ((with_reducible apply Wd_gsT); (exact rfl); ((conv => lhs; simp -implicitDefEqProofs [*]) <;> exact rfl)) | ((with_reducible apply Wd_gsF); (exact rfl); ((conv => lhs; simp -implicitDefEqProofs [*]) <;> exact rfl)) | ((with_reducible first | apply W_srdl | apply W_rdl); kernel_rfl) | ((with_reducible apply Wd_nil); exact rfl) | ((with_reducible apply inB_o); rotate_left; exact rfl) | (intro h h'; try simp [*, -h] at h'))
    exact ⟨_, by omega, k + 1, rfl, hlt, by simp [*], by simp [*], by simp [*], by simp [*]⟩
  · obtain rfl : k = 8 := by omega
    have hh := hf_le hU 8
    unfold U at hh
    have e1 : hf w 8 = w / 256 := by simp only [hf]; omega
    have e2 : IntKind.u32.wrap (w / 256) = w / 256 := by rw [← e1, IntKind.wrap_u32]; omega
    rw [e1] at hs7
    simp only [Int.cast_ofNat_Int] at hs8
    exact step8
set_option maxHeartbeats 4000000 in
theorem d47_4 (x y : Int) (hx : U x) (hy : U y) : (lim Tryz.prog E47 X47).dat 218 [iv 4, uv x, uv y] = some [uv ((x + y) % 4294967296), iv 0] := by
  refine fnW Tryz.func218 rfl rfl bodyOk_218 rfl rtys_218 rfl ?_
  have h50 := d50 x hx
  have h51 := d51
  unfold U at *
  have e0 : IntKind.u64.wrap x = x := by rw [IntKind.wrap_u64]; omega
  have e1 : IntKind.u64.wrap y = y := by rw [IntKind.wrap_u64]; omega
  have e2 : IntKind.u64.wrap (x + y) = x + y := by rw [IntKind.wrap_u64]; omega
  have e3 : (x + y).tmod 4294967296 = (x + y) % 4294967296 := Int.tmod_eq_emod_of_nonneg (by omega)
  have e4 : IntKind.u64.wrap ((x + y) % 4294967296) = (x + y) % 4294967296 := by rw [IntKind.wrap_u64]; omega
  have e5 : IntKind.u32.wrap ((x + y) % 4294967296) = (x + y) % 4294967296 := by rw [IntKind.wrap_u32]; omega
  exact step8
set_option maxHeartbeats 4000000 in
theorem d47_13 (x : Int) (hx : U x) : (lim Tryz.prog E47 X47).dat 218 [iv 13, uv x, uv 8] = some [uv (x / 256), iv 0] := by
  refine fnW Tryz.func218 rfl rfl bodyOk_218 rfl rtys_218 rfl ?_
  have h50 := d50 x hx
  have h51 := d51
  unfold U at *
  have e0 : IntKind.u64.wrap x = x := by rw [IntKind.wrap_u64]; omega
  exact step8
set_option maxHeartbeats 4000000 in
theorem d47_14 (x y : Int) (hx : U x) (hy : U y) : (lim Tryz.prog E47 X47).dat 218 [iv 14, uv x, uv y] = some [uv (if x < y then 1 else 0), iv 0] := by
  refine fnW Tryz.func218 rfl rfl bodyOk_218 rfl rtys_218 rfl ?_
  have h50 := d50 x hx
  have h51 := d51
  unfold U at *
  have e0 : IntKind.u64.wrap x = x := by rw [IntKind.wrap_u64]; omega
  have e1 : IntKind.u64.wrap y = y := by rw [IntKind.wrap_u64]; omega
  exact step7
set_option maxHeartbeats 4000000 in
theorem d45 (l : List Int) (b : Nat) (hl : l.length ≤ 1048576) (hb : b < l.length) : (lim Tryz.prog E47 X47).dat 216 [.sl false 1 (rowW l), uv b, iv 0] = some [uv l[b], bv true] := by
  refine fnW Tryz.func216 rfl rfl bodyOk_216 rfl rtys_216 rfl ?_
  have e0 : IntKind.u32.wrap (b : Int) = b := by rw [IntKind.wrap_u32]; omega
  have e1 : IntKind.u64.wrap (b : Int) = b := by rw [IntKind.wrap_u64]; omega
  have e2 : IntKind.u64.wrap (l.length : Int) = l.length := by rw [IntKind.wrap_u64]; omega
  have e3 : ¬ (l.length : Int) ≤ b := by omega
  have wz : IntKind.u32.wrap 0 = 0 := by decide +kernel
  exact step7
end Go.Proofs.YtaeeffddinppeaaGreatDoor
namespace Go.Proofs.YtaeeffddinppeaaGreatDoor
open Go Go.Ab
def partsOf (op : Int) : ByteArray :=
  if op = 1 ∨ op = 2 ∨ op = 19 ∨ op = 20 ∨ op = 21 ∨ op = 25 then ⟨#[97, 99]⟩
  else if op = 3 then ⟨#[97, 98]⟩
  else if op = 16 ∨ op = 17 ∨ op = 27 then ⟨#[97, 98, 99]⟩
  else if op = 18 then ⟨#[99]⟩
  else if op = 22 ∨ op = 23 ∨ op = 24 then ⟨#[97]⟩
  else if op = 26 then ⟨#[]⟩
  else if op = 4 ∨ op = 5 ∨ op = 6 ∨ op = 7 ∨ op = 8 ∨ op = 9 ∨ op = 10 ∨ op = 11 ∨ op = 12 ∨ op = 13 ∨ op = 14 ∨ op = 15 then ⟨#[97, 98, 114]⟩
  else ⟨#[63]⟩
theorem d52_0 : (lim Tryz.prog E47 X47).dat 158 [iv 0] = some [.sc (.string ⟨#[63]⟩)] := lim_dat.2 ⟨100, by kernel_rfl⟩
theorem d52_1 : (lim Tryz.prog E47 X47).dat 158 [iv 1] = some [.sc (.string ⟨#[97, 99]⟩)] := lim_dat.2 ⟨100, by kernel_rfl⟩
theorem d52_2 : (lim Tryz.prog E47 X47).dat 158 [iv 2] = some [.sc (.string ⟨#[97, 99]⟩)] := lim_dat.2 ⟨100, by kernel_rfl⟩
theorem d52_3 : (lim Tryz.prog E47 X47).dat 158 [iv 3] = some [.sc (.string ⟨#[97, 98]⟩)] := lim_dat.2 ⟨100, by kernel_rfl⟩
theorem d52_4 : (lim Tryz.prog E47 X47).dat 158 [iv 4] = some [.sc (.string ⟨#[97, 98, 114]⟩)] := lim_dat.2 ⟨100, by kernel_rfl⟩
theorem d52_5 : (lim Tryz.prog E47 X47).dat 158 [iv 5] = some [.sc (.string ⟨#[97, 98, 114]⟩)] := lim_dat.2 ⟨100, by kernel_rfl⟩
theorem d52_6 : (lim Tryz.prog E47 X47).dat 158 [iv 6] = some [.sc (.string ⟨#[97, 98, 114]⟩)] := lim_dat.2 ⟨100, by kernel_rfl⟩
theorem d52_7 : (lim Tryz.prog E47 X47).dat 158 [iv 7] = some [.sc (.string ⟨#[97, 98, 114]⟩)] := lim_dat.2 ⟨100, by kernel_rfl⟩
theorem d52_8 : (lim Tryz.prog E47 X47).dat 158 [iv 8] = some [.sc (.string ⟨#[97, 98, 114]⟩)] := lim_dat.2 ⟨100, by kernel_rfl⟩
theorem d52_9 : (lim Tryz.prog E47 X47).dat 158 [iv 9] = some [.sc (.string ⟨#[97, 98, 114]⟩)] := lim_dat.2 ⟨100, by kernel_rfl⟩
theorem d52_10 : (lim Tryz.prog E47 X47).dat 158 [iv 10] = some [.sc (.string ⟨#[97, 98, 114]⟩)] := lim_dat.2 ⟨100, by kernel_rfl⟩
theorem d52_11 : (lim Tryz.prog E47 X47).dat 158 [iv 11] = some [.sc (.string ⟨#[97, 98, 114]⟩)] := lim_dat.2 ⟨100, by kernel_rfl⟩
theorem d52_12 : (lim Tryz.prog E47 X47).dat 158 [iv 12] = some [.sc (.string ⟨#[97, 98, 114]⟩)] := lim_dat.2 ⟨100, by kernel_rfl⟩
theorem d52_13 : (lim Tryz.prog E47 X47).dat 158 [iv 13] = some [.sc (.string ⟨#[97, 98, 114]⟩)] := lim_dat.2 ⟨100, by kernel_rfl⟩
theorem d52_14 : (lim Tryz.prog E47 X47).dat 158 [iv 14] = some [.sc (.string ⟨#[97, 98, 114]⟩)] := lim_dat.2 ⟨100, by kernel_rfl⟩
theorem d52_15 : (lim Tryz.prog E47 X47).dat 158 [iv 15] = some [.sc (.string ⟨#[97, 98, 114]⟩)] := lim_dat.2 ⟨100, by kernel_rfl⟩
theorem d52_16 : (lim Tryz.prog E47 X47).dat 158 [iv 16] = some [.sc (.string ⟨#[97, 98, 99]⟩)] := lim_dat.2 ⟨100, by kernel_rfl⟩
theorem d52_17 : (lim Tryz.prog E47 X47).dat 158 [iv 17] = some [.sc (.string ⟨#[97, 98, 99]⟩)] := lim_dat.2 ⟨100, by kernel_rfl⟩
theorem d52_18 : (lim Tryz.prog E47 X47).dat 158 [iv 18] = some [.sc (.string ⟨#[99]⟩)] := lim_dat.2 ⟨100, by kernel_rfl⟩
theorem d52_19 : (lim Tryz.prog E47 X47).dat 158 [iv 19] = some [.sc (.string ⟨#[97, 99]⟩)] := lim_dat.2 ⟨100, by kernel_rfl⟩
theorem d52_20 : (lim Tryz.prog E47 X47).dat 158 [iv 20] = some [.sc (.string ⟨#[97, 99]⟩)] := lim_dat.2 ⟨100, by kernel_rfl⟩
theorem d52_21 : (lim Tryz.prog E47 X47).dat 158 [iv 21] = some [.sc (.string ⟨#[97, 99]⟩)] := lim_dat.2 ⟨100, by kernel_rfl⟩
theorem d52_22 : (lim Tryz.prog E47 X47).dat 158 [iv 22] = some [.sc (.string ⟨#[97]⟩)] := lim_dat.2 ⟨100, by kernel_rfl⟩
theorem d52_23 : (lim Tryz.prog E47 X47).dat 158 [iv 23] = some [.sc (.string ⟨#[97]⟩)] := lim_dat.2 ⟨100, by kernel_rfl⟩
theorem d52_24 : (lim Tryz.prog E47 X47).dat 158 [iv 24] = some [.sc (.string ⟨#[97]⟩)] := lim_dat.2 ⟨100, by kernel_rfl⟩
theorem d52_25 : (lim Tryz.prog E47 X47).dat 158 [iv 25] = some [.sc (.string ⟨#[97, 99]⟩)] := lim_dat.2 ⟨100, by kernel_rfl⟩
theorem d52_26 : (lim Tryz.prog E47 X47).dat 158 [iv 26] = some [.sc (.string ⟨#[]⟩)] := lim_dat.2 ⟨100, by kernel_rfl⟩
theorem d52_27 : (lim Tryz.prog E47 X47).dat 158 [iv 27] = some [.sc (.string ⟨#[97, 98, 99]⟩)] := lim_dat.2 ⟨100, by kernel_rfl⟩
set_option maxHeartbeats 4000000 in
theorem d52_x (op : Int) (h : 27 < op) : (lim Tryz.prog E47 X47).dat 158 [iv op] = some [.sc (.string ⟨#[63]⟩)] := by
  refine fnW Tryz.func158 rfl rfl bodyOk_158 rfl rtys_158 rfl ?_
  have n0 : ¬ op ≤ 15 := by omega
  have n1 : ¬ op = 1 := by omega
  have n2 : ¬ op = 2 := by omega
  have n3 : ¬ op = 3 := by omega
  have n4 : ¬ op = 4 := by omega
  have n5 : ¬ op = 5 := by omega
  have n6 : ¬ op = 6 := by omega
  have n7 : ¬ op = 7 := by omega
  have n8 : ¬ op = 8 := by omega
  have n9 : ¬ op = 9 := by omega
  have n10 : ¬ op = 10 := by omega
  have n11 : ¬ op = 11 := by omega
  have n12 : ¬ op = 12 := by omega
  have n13 : ¬ op = 13 := by omega
  have n14 : ¬ op = 14 := by omega
  have n15 : ¬ op = 15 := by omega
  have n16 : ¬ op = 16 := by omega
  have n17 : ¬ op = 17 := by omega
  have n18 : ¬ op = 18 := by omega
  have n19 : ¬ op = 19 := by omega
  have n20 : ¬ op = 20 := by omega
  have n21 : ¬ op = 21 := by omega
  have n22 : ¬ op = 22 := by omega
  have n23 : ¬ op = 23 := by omega
  have n24 : ¬ op = 24 := by omega
  have n25 : ¬ op = 25 := by omega
  have n26 : ¬ op = 26 := by omega
  have n27 : ¬ op = 27 := by omega
  exact step8
theorem d52 (op : Int) (h : 0 ≤ op) : (lim Tryz.prog E47 X47).dat 158 [iv op] = some [.sc (.string (partsOf op))] := by
  by_cases hx : 27 < op
  · rw [d52_x op hx]
    unfold partsOf
    rw [if_neg (by omega), if_neg (by omega), if_neg (by omega), if_neg (by omega), if_neg (by omega), if_neg (by omega), if_neg (by omega)]
  have : op = 0 ∨ op = 1 ∨ op = 2 ∨ op = 3 ∨ op = 4 ∨ op = 5 ∨ op = 6 ∨ op = 7 ∨ op = 8 ∨ op = 9 ∨ op = 10 ∨ op = 11 ∨ op = 12 ∨ op = 13 ∨ op = 14 ∨ op = 15 ∨ op = 16 ∨ op = 17 ∨ op = 18 ∨ op = 19 ∨ op = 20 ∨ op = 21 ∨ op = 22 ∨ op = 23 ∨ op = 24 ∨ op = 25 ∨ op = 26 ∨ op = 27 := by omega
  rcases this with rfl | rfl | rfl | rfl | rfl | rfl | rfl | rfl | rfl | rfl | rfl | rfl | rfl | rfl | rfl | rfl | rfl | rfl | rfl | rfl | rfl | rfl | rfl | rfl | rfl | rfl | rfl | rfl
  · rw [d52_0]; rfl
  · rw [d52_1]; rfl
  · rw [d52_2]; rfl
  · rw [d52_3]; rfl
  · rw [d52_4]; rfl
  · rw [d52_5]; rfl
  · rw [d52_6]; rfl
  · rw [d52_7]; rfl
  · rw [d52_8]; rfl
  · rw [d52_9]; rfl
  · rw [d52_10]; rfl
  · rw [d52_11]; rfl
  · rw [d52_12]; rfl
  · rw [d52_13]; rfl
  · rw [d52_14]; rfl
  · rw [d52_15]; rfl
  · rw [d52_16]; rfl
  · rw [d52_17]; rfl
  · rw [d52_18]; rfl
  · rw [d52_19]; rfl
  · rw [d52_20]; rfl
  · rw [d52_21]; rfl
  · rw [d52_22]; rfl
  · rw [d52_23]; rfl
  · rw [d52_24]; rfl
  · rw [d52_25]; rfl
  · rw [d52_26]; rfl
  · rw [d52_27]; rfl
theorem d53_ac_a : (lim Tryz.prog E47 X47).dat 159 [.sc (.string ⟨#[97, 99]⟩), .sc (.int .u8 97)] = some [bv true] := lim_dat.2 ⟨100, by kernel_rfl⟩
theorem d53_ac_b : (lim Tryz.prog E47 X47).dat 159 [.sc (.string ⟨#[97, 99]⟩), .sc (.int .u8 98)] = some [bv false] := lim_dat.2 ⟨100, by kernel_rfl⟩
theorem d53_ac_c : (lim Tryz.prog E47 X47).dat 159 [.sc (.string ⟨#[97, 99]⟩), .sc (.int .u8 99)] = some [bv true] := lim_dat.2 ⟨100, by kernel_rfl⟩
theorem d53_ac_r : (lim Tryz.prog E47 X47).dat 159 [.sc (.string ⟨#[97, 99]⟩), .sc (.int .u8 114)] = some [bv false] := lim_dat.2 ⟨100, by kernel_rfl⟩
theorem d53_ab_a : (lim Tryz.prog E47 X47).dat 159 [.sc (.string ⟨#[97, 98]⟩), .sc (.int .u8 97)] = some [bv true] := lim_dat.2 ⟨100, by kernel_rfl⟩
theorem d53_ab_b : (lim Tryz.prog E47 X47).dat 159 [.sc (.string ⟨#[97, 98]⟩), .sc (.int .u8 98)] = some [bv true] := lim_dat.2 ⟨100, by kernel_rfl⟩
theorem d53_ab_c : (lim Tryz.prog E47 X47).dat 159 [.sc (.string ⟨#[97, 98]⟩), .sc (.int .u8 99)] = some [bv false] := lim_dat.2 ⟨100, by kernel_rfl⟩
theorem d53_ab_r : (lim Tryz.prog E47 X47).dat 159 [.sc (.string ⟨#[97, 98]⟩), .sc (.int .u8 114)] = some [bv false] := lim_dat.2 ⟨100, by kernel_rfl⟩
theorem d53_abc_a : (lim Tryz.prog E47 X47).dat 159 [.sc (.string ⟨#[97, 98, 99]⟩), .sc (.int .u8 97)] = some [bv true] := lim_dat.2 ⟨100, by kernel_rfl⟩
theorem d53_abc_b : (lim Tryz.prog E47 X47).dat 159 [.sc (.string ⟨#[97, 98, 99]⟩), .sc (.int .u8 98)] = some [bv true] := lim_dat.2 ⟨100, by kernel_rfl⟩
theorem d53_abc_c : (lim Tryz.prog E47 X47).dat 159 [.sc (.string ⟨#[97, 98, 99]⟩), .sc (.int .u8 99)] = some [bv true] := lim_dat.2 ⟨100, by kernel_rfl⟩
theorem d53_abc_r : (lim Tryz.prog E47 X47).dat 159 [.sc (.string ⟨#[97, 98, 99]⟩), .sc (.int .u8 114)] = some [bv false] := lim_dat.2 ⟨100, by kernel_rfl⟩
theorem d53_c_a : (lim Tryz.prog E47 X47).dat 159 [.sc (.string ⟨#[99]⟩), .sc (.int .u8 97)] = some [bv false] := lim_dat.2 ⟨100, by kernel_rfl⟩
theorem d53_c_b : (lim Tryz.prog E47 X47).dat 159 [.sc (.string ⟨#[99]⟩), .sc (.int .u8 98)] = some [bv false] := lim_dat.2 ⟨100, by kernel_rfl⟩
theorem d53_c_c : (lim Tryz.prog E47 X47).dat 159 [.sc (.string ⟨#[99]⟩), .sc (.int .u8 99)] = some [bv true] := lim_dat.2 ⟨100, by kernel_rfl⟩
theorem d53_c_r : (lim Tryz.prog E47 X47).dat 159 [.sc (.string ⟨#[99]⟩), .sc (.int .u8 114)] = some [bv false] := lim_dat.2 ⟨100, by kernel_rfl⟩
theorem d53_a_a : (lim Tryz.prog E47 X47).dat 159 [.sc (.string ⟨#[97]⟩), .sc (.int .u8 97)] = some [bv true] := lim_dat.2 ⟨100, by kernel_rfl⟩
theorem d53_a_b : (lim Tryz.prog E47 X47).dat 159 [.sc (.string ⟨#[97]⟩), .sc (.int .u8 98)] = some [bv false] := lim_dat.2 ⟨100, by kernel_rfl⟩
theorem d53_a_c : (lim Tryz.prog E47 X47).dat 159 [.sc (.string ⟨#[97]⟩), .sc (.int .u8 99)] = some [bv false] := lim_dat.2 ⟨100, by kernel_rfl⟩
theorem d53_a_r : (lim Tryz.prog E47 X47).dat 159 [.sc (.string ⟨#[97]⟩), .sc (.int .u8 114)] = some [bv false] := lim_dat.2 ⟨100, by kernel_rfl⟩
theorem d53__a : (lim Tryz.prog E47 X47).dat 159 [.sc (.string ⟨#[]⟩), .sc (.int .u8 97)] = some [bv false] := lim_dat.2 ⟨100, by kernel_rfl⟩
theorem d53__b : (lim Tryz.prog E47 X47).dat 159 [.sc (.string ⟨#[]⟩), .sc (.int .u8 98)] = some [bv false] := lim_dat.2 ⟨100, by kernel_rfl⟩
theorem d53__c : (lim Tryz.prog E47 X47).dat 159 [.sc (.string ⟨#[]⟩), .sc (.int .u8 99)] = some [bv false] := lim_dat.2 ⟨100, by kernel_rfl⟩
theorem d53__r : (lim Tryz.prog E47 X47).dat 159 [.sc (.string ⟨#[]⟩), .sc (.int .u8 114)] = some [bv false] := lim_dat.2 ⟨100, by kernel_rfl⟩
theorem d53_abr_a : (lim Tryz.prog E47 X47).dat 159 [.sc (.string ⟨#[97, 98, 114]⟩), .sc (.int .u8 97)] = some [bv true] := lim_dat.2 ⟨100, by kernel_rfl⟩
theorem d53_abr_b : (lim Tryz.prog E47 X47).dat 159 [.sc (.string ⟨#[97, 98, 114]⟩), .sc (.int .u8 98)] = some [bv true] := lim_dat.2 ⟨100, by kernel_rfl⟩
theorem d53_abr_c : (lim Tryz.prog E47 X47).dat 159 [.sc (.string ⟨#[97, 98, 114]⟩), .sc (.int .u8 99)] = some [bv false] := lim_dat.2 ⟨100, by kernel_rfl⟩
theorem d53_abr_r : (lim Tryz.prog E47 X47).dat 159 [.sc (.string ⟨#[97, 98, 114]⟩), .sc (.int .u8 114)] = some [bv true] := lim_dat.2 ⟨100, by kernel_rfl⟩
theorem d53_x_a : (lim Tryz.prog E47 X47).dat 159 [.sc (.string ⟨#[63]⟩), .sc (.int .u8 97)] = some [bv false] := lim_dat.2 ⟨100, by kernel_rfl⟩
theorem d53_x_b : (lim Tryz.prog E47 X47).dat 159 [.sc (.string ⟨#[63]⟩), .sc (.int .u8 98)] = some [bv false] := lim_dat.2 ⟨100, by kernel_rfl⟩
theorem d53_x_c : (lim Tryz.prog E47 X47).dat 159 [.sc (.string ⟨#[63]⟩), .sc (.int .u8 99)] = some [bv false] := lim_dat.2 ⟨100, by kernel_rfl⟩
theorem d53_x_r : (lim Tryz.prog E47 X47).dat 159 [.sc (.string ⟨#[63]⟩), .sc (.int .u8 114)] = some [bv false] := lim_dat.2 ⟨100, by kernel_rfl⟩
set_option maxHeartbeats 1000000 in
theorem d54 (h : Bool) (x m : Int)  : (lim Tryz.prog E47 X47).dat 160 [bv h, iv x, iv m] = some [bv (if h then decide (0 ≤ x) && decide (x ≤ m) else decide (x = 0))] := by
  refine fnW Tryz.func160 rfl rfl bodyOk_160 rfl rtys_160 rfl ?_
  cases h
  all_goals by_cases h1 : x = 0
  all_goals by_cases h2 : 0 ≤ x
  all_goals by_cases h3 : x ≤ m
  all_goals exact step7
end Go.Proofs.YtaeeffddinppeaaGreatDoor
namespace Go.Proofs.YtaeeffddinppeaaGreatDoor
open Go Go.Ab
section
variable {P : Program} {E : Cfg} {k : Nat} {call : Orc} {all : Array Oper} {os : List Oper} {fr : Nat → AV} {hp : Hp} {Q : AS → Prop} {d d' j : Nat} {op : Op} {ty : TypeId} {pos : String} {aft : Array Edge} {b : Bool} {fs : List Foot}
end
def wi (h : Bool) (x m : Int) : Bool := if h then decide (0 ≤ x) && decide (x ≤ m) else decide (x = 0)
def hasB (P : ByteArray) (c : UInt8) : Bool := P.data.toList.contains c
def rightI (i : Ins) : Bool := decide (partsOf i.op ≠ ⟨#[63]⟩) && wi (hasB (partsOf i.op) 97) i.a 15 && wi (hasB (partsOf i.op) 98) i.b 15 && wi (hasB (partsOf i.op) 99 || hasB (partsOf i.op) 114) i.c (if hasB (partsOf i.op) 114 then 15 else 65535)
set_option maxRecDepth 20000 in
set_option maxHeartbeats 8000000 in
theorem d48x (i : Ins) (P : ByteArray) (ra rb rc rr nq : Bool) (h52 : (lim Tryz.prog E47 X47).dat 158 [iv i.op] = some [.sc (.string P)]) (hq : decide (P = ⟨#[63]⟩) = !nq) (h53a : (lim Tryz.prog E47 X47).dat 159 [.sc (.string P), .sc (.int .u8 97)] = some [bv ra]) (h53b : (lim Tryz.prog E47 X47).dat 159 [.sc (.string P), .sc (.int .u8 98)] = some [bv rb]) (h53c : (lim Tryz.prog E47 X47).dat 159 [.sc (.string P), .sc (.int .u8 99)] = some [bv rc]) (h53r : (lim Tryz.prog E47 X47).dat 159 [.sc (.string P), .sc (.int .u8 114)] = some [bv rr]) : (lim Tryz.prog E47 X47).dat 111 [.agg i.row] = some [bv (nq && wi ra i.a 15 && wi rb i.b 15 && wi (rc || rr) i.c (if rr then 15 else 65535))] := by
  refine fnW Tryz.func111 rfl rfl bodyOk_111 rfl rtys_111 rfl ?_
  have h54a := d54 ra i.a 15
  have h54b := d54 rb i.b 15
  have h54c := d54 (rc || rr) i.c (if rr then 15 else 65535)
  simp only [← wi.eq_def] at h54a h54b h54c
  obtain ⟨op, a, b, c⟩ := i
  simp only [Ins.row] at *
  generalize wi ra a 15 = xa at *
  generalize wi rb b 15 = xb at *
  generalize wi (rc || rr) c (if rr then 15 else 65535) = xc at *
  cases nq
  · have hP : P = ⟨#[63]⟩ := by simpa using hq
    subst hP
    clear hq
    cases rr <;> cases rc
    all_goals simp only [Bool.not_true, Bool.not_false, Bool.or_true, Bool.or_false, if_true, if_false, Bool.false_eq_true] at *
    all_goals exact step1
  have hP : ¬ P = ⟨#[63]⟩ := by simpa using hq
  clear hq
  cases rr <;> cases rc
  all_goals simp only [Bool.not_true, Bool.not_false, Bool.or_true, Bool.or_false, if_true, if_false, Bool.false_eq_true] at *
  all_goals exact step1
end Go.Proofs.YtaeeffddinppeaaGreatDoor
namespace Go.Proofs.YtaeeffddinppeaaGreatDoor
open Go Go.Ab
theorem parts_one (op : Int) : partsOf op = ⟨#[97, 99]⟩ ∨ partsOf op = ⟨#[97, 98]⟩ ∨ partsOf op = ⟨#[97, 98, 99]⟩ ∨ partsOf op = ⟨#[99]⟩ ∨ partsOf op = ⟨#[97]⟩ ∨ partsOf op = ⟨#[]⟩ ∨ partsOf op = ⟨#[97, 98, 114]⟩ ∨ partsOf op = ⟨#[63]⟩ := by
  unfold partsOf
  repeat' split
  all_goals simp
theorem d48 (i : Ins) (h : 0 ≤ i.op) : (lim Tryz.prog E47 X47).dat 111 [.agg i.row] = some [bv (rightI i)] := by
  have h52 := d52 i.op h
  unfold rightI
  rcases parts_one i.op with e | e | e | e | e | e | e | e
  · rw [e] at h52 ⊢
    rw [d48x i ⟨#[97, 99]⟩ true false true false true h52 (by decide) d53_ac_a d53_ac_b d53_ac_c d53_ac_r]
    rfl
  · rw [e] at h52 ⊢
    rw [d48x i ⟨#[97, 98]⟩ true true false false true h52 (by decide) d53_ab_a d53_ab_b d53_ab_c d53_ab_r]
    rfl
  · rw [e] at h52 ⊢
    rw [d48x i ⟨#[97, 98, 99]⟩ true true true false true h52 (by decide) d53_abc_a d53_abc_b d53_abc_c d53_abc_r]
    rfl
  · rw [e] at h52 ⊢
    rw [d48x i ⟨#[99]⟩ false false true false true h52 (by decide) d53_c_a d53_c_b d53_c_c d53_c_r]
    rfl
  · rw [e] at h52 ⊢
    rw [d48x i ⟨#[97]⟩ true false false false true h52 (by decide) d53_a_a d53_a_b d53_a_c d53_a_r]
    rfl
  · rw [e] at h52 ⊢
    rw [d48x i ⟨#[]⟩ false false false false true h52 (by decide) d53__a d53__b d53__c d53__r]
    rfl
  · rw [e] at h52 ⊢
    rw [d48x i ⟨#[97, 98, 114]⟩ true true false true true h52 (by decide) d53_abr_a d53_abr_b d53_abr_c d53_abr_r]
    rfl
  · rw [e] at h52 ⊢
    rw [d48x i ⟨#[63]⟩ false false false false false h52 (by decide) d53_x_a d53_x_b d53_x_c d53_x_r]
    rfl
def insW (w : Int) : Ins := ⟨w / 16777216, w / 1048576 % 16, w / 65536 % 16, w % 65536⟩
def decR (w : Int) : List AV := if rightI (insW w) then (insW w).row else [iv 0, iv 0, iv 0, iv 0]
def okR (w : Int) : Bool := rightI (insW w)
set_option maxHeartbeats 4000000 in
theorem d43 (w : Int) (hU : U w) : (lim Tryz.prog E47 X47).dat 214 [uv w] = some [.agg (decR w), iv (if okR w then 0 else 7)] := by
  refine fnW Tryz.func214 rfl rfl bodyOk_214 rfl rtys_214 rfl ?_
  unfold U at hU
  have h48 := d48 (insW w) (by show 0 ≤ w / 16777216; omega)
  have w1 : IntKind.u32.wrap (w.tdiv 16777216) = w / 16777216 := by rw [Int.tdiv_eq_ediv_of_nonneg hU.1, IntKind.wrap_u32]; omega
  have w2 : IntKind.u32.wrap (w.tdiv 1048576) = w / 1048576 := by rw [Int.tdiv_eq_ediv_of_nonneg hU.1, IntKind.wrap_u32]; omega
  have w3 : IntKind.u32.wrap (w.tdiv 65536) = w / 65536 := by rw [Int.tdiv_eq_ediv_of_nonneg hU.1, IntKind.wrap_u32]; omega
  have t2 : (w / 1048576).tmod 16 = w / 1048576 % 16 := Int.tmod_eq_emod_of_nonneg (by omega)
  have t3 : (w / 65536).tmod 16 = w / 65536 % 16 := Int.tmod_eq_emod_of_nonneg (by omega)
  have t4 : w.tmod 65536 = w % 65536 := Int.tmod_eq_emod_of_nonneg (by omega)
  have i1 : IntKind.i64.wrap (w / 16777216) = w / 16777216 := wrap64 (by omega) (by omega)
  have i2 : IntKind.i64.wrap (w / 1048576 % 16) = w / 1048576 % 16 := wrap64 (by omega) (by omega)
  have i3 : IntKind.i64.wrap (w / 65536 % 16) = w / 65536 % 16 := wrap64 (by omega) (by omega)
  have i4 : IntKind.i64.wrap (w % 65536) = w % 65536 := wrap64 (by omega) (by omega)
  have r2 : IntKind.u32.wrap (w / 1048576 % 16) = w / 1048576 % 16 := by rw [IntKind.wrap_u32]; omega
  have r3 : IntKind.u32.wrap (w / 65536 % 16) = w / 65536 % 16 := by rw [IntKind.wrap_u32]; omega
  have r4 : IntKind.u32.wrap (w % 65536) = w % 65536 := by rw [IntKind.wrap_u32]; omega
  unfold decR okR
  simp only [Ins.row] at h48 ⊢
  generalize rightI (insW w) = r at h48
  simp only [insW] at h48 ⊢
  clear hU
  cases r
  all_goals exact step8
abbrev rowD (l : List Int) : List (List AV) := l.map decR
abbrev rowK (l : List Int) : List (List AV) := l.map fun w => [bv (okR w)]
end Go.Proofs.YtaeeffddinppeaaGreatDoor
namespace Go.Proofs.YtaeeffddinppeaaGreatDoor
open Go Go.Ab
def Z4 : List AV := [iv 0, iv 0, iv 0, iv 0]
def fil {α : Type} (f : Int → α) (z : α) (l : List Int) (k : Nat) : List α := (l.take k).map f ++ List.replicate (l.length - k) z
theorem fil_len {α : Type} (f : Int → α) (z : α) (l : List Int) (k : Nat) (h : k ≤ l.length) : (fil f z l k).length = l.length := by simp [fil]; omega
theorem fil_zero {α : Type} (f : Int → α) (z : α) (l : List Int) : fil f z l 0 = List.replicate l.length z := by simp [fil]
theorem fil_all {α : Type} (f : Int → α) (z : α) (l : List Int) : fil f z l l.length = l.map f := by simp [fil]
theorem fil_get {α : Type} (f : Int → α) (z : α) (l : List Int) (k : Nat) (h : k < l.length) : (fil f z l k)[k]? = some z := by
  unfold fil
  rw [List.getElem?_append_right (by simp; omega)]
  simp [List.length_take, Nat.min_eq_left (Nat.le_of_lt h), List.getElem?_replicate]; omega
theorem fil_set {α : Type} (f : Int → α) (z : α) (l : List Int) (k : Nat) (w : Int) (h : l[k]? = some w) : (fil f z l k).set k (f w) = fil f z l (k + 1) := by
  have hk := (List.getElem?_eq_some_iff.1 h).1
  unfold fil
  rw [List.set_append_right _ _ (by simp; omega), List.take_add_one, h, List.map_append]
  obtain ⟨m, hm⟩ : ∃ m, l.length - k = m + 1 := ⟨l.length - k - 1, by omega⟩
  rw [show l.length - (k + 1) = m from by omega, hm, List.replicate_succ]
  simp [Nat.min_eq_left (Nat.le_of_lt hk)]
theorem decR_four (w : Int) : ∃ a b c d : Int, decR w = [iv a, iv b, iv c, iv d] := by
  unfold decR
  split
  · exact ⟨_, _, _, _, rfl⟩
  · exact ⟨0, 0, 0, 0, rfl⟩
set_option maxHeartbeats 4000000 in
theorem d38 (l : List Int) (data : Int) (hl : l.length ≤ 1048576) (hU : ∀ x ∈ l, U x) : (lim Tryz.prog E47 X47).dat 161 [.agg [.sl false 1 (rowW l), iv data]] = some [.vec 4 (rowD l), .vec 1 (rowK l)] := by
  refine fnW Tryz.func161 rfl rfl bodyOk_161 rfl rtys_161 rfl ?_
  have n1 : 4 * l.length ≤ 140737488355328 := by omega
  have n2 : l.length ≤ 140737488355328 := by omega
  have n3 : (l.length : Int) * 32 ≤ 140737488355328 := by omega
  have n4 : (l.length : Int) ≤ 9223372036854775807 := by omega
  have n5 : (l.length : Int) ≤ 140737488355328 := by omega
  repeat' (first | ((with_reducible first | apply Wo_u | apply Wo_n | apply ex2 | apply W_sc | apply W_c | apply Wd_u | apply Wd_n | apply ex4 | apply EndQ_ret | apply EndQ_normal); (conv => lhs; simp -implicitDefEqProofs [*]) <;> exact rfl) | (with_reducible first | apply Wo_nil | apply W_ss | apply W_srl | apply W_rl | apply W_sblock | apply W_block | apply W_sskip | apply W_skip | apply W_sret | apply W_ret | apply W_sexit | apply W_exit | apply thenW_n | apply thenW_r | apply thenW_e | apply inB_n | apply inB_r | apply inB_e) | ((with_reducible apply Wo_gt); (exact rfl); ((conv => lhs; simp -implicitDefEqProofs [*]) <;> exact rfl); (conv => lhs; simp -implicitDefEqProofs [*]) <;> exact rfl) | ((with_reducible apply Wo_gf); (exact rfl); ((conv => lhs; simp -implicitDefEqProofs [*]) <;> exact rfl); (exact rfl)) | ((with_reducible apply Wo_gx); (exact rfl); ((conv => lhs; simp -implicitDefEqProofs [*]) <;> exact rfl)) | ((with_reducible apply Wo_gsT); (exact rfl); ((conv => lhs; simp -implicitDefEqProofs [*]) <;> exact rfl)) | ((with_reducible apply Wo_gsF); (exact rfl); ((conv => lhs; simp -implicitDefEqProofs [*]) <;> exact rfl)) | ((with_reducible apply Wd_gsT); (exact rfl); ((conv => lhs; simp -implicitDefEqProofs [*]) <;> exact rfl)) | ((with_reducible apply Wd_gsF); (exact rfl); ((conv => lhs; simp -implicitDefEqProofs [*]) <;> exact rfl)) | ((with_reducible first | apply W_srdl | apply W_rdl); kernel_rfl) | ((with_reducible apply Wd_nil); exact rfl) | ((with_reducible apply inB_o); rotate_left; exact rfl) | (intro h h'; try simp [*, -h] at h'))
  refine W_loopS (n := l.length) (fun s0 m q => ∃ k : Nat, m = l.length - k ∧ k ≤ l.length ∧ q.fr 6 = iv k ∧ q.fr 1 = s0.fr 1 ∧ q.fr 4 = s0.fr 4 ∧ q.fr 5 = s0.fr 5 ∧ q.hp ⟨0, 1, 0⟩ = s0.hp ⟨0, 1, 0⟩ ∧ q.hp ⟨0, 12, 0⟩ = .arr 1 4 119 (fil decR Z4 l k) false ∧ q.hp ⟨0, 16, 0⟩ = .arr 1 1 4 (fil (fun w => [bv (okR w)]) [bv false] l k) false) ⟨0, by simp, by omega, by simp, by simp, by simp, by simp, by simp, by simp [fil_zero, Z4], by simp [fil_zero]⟩ ?_
  rintro m ⟨fr, hp⟩ ⟨k, rfl, hk, hs6, hs1, hs4, hs5, hh1, hh12, hh16⟩
  simp at hs6 hs1 hs4 hs5 hh1 hh12 hh16
  have f1 := fil_len decR Z4 l k hk
  have f2 := fil_len (fun w => [bv (okR w)]) [bv false] l k hk
  by_cases hlt : k < l.length
  · have hg := List.getElem?_eq_getElem hlt
    have hw := wrapN (k := k) (by omega)
    have hd := d43 _ (hU _ (List.getElem_mem hlt))
    obtain ⟨w, hwl⟩ : ∃ w, l[k] = w := ⟨_, rfl⟩
    rw [hwl] at hg hd
    have hwe : ∀ h, l[k]'h = w := fun _ => hwl
    have f3 := fil_set decR Z4 l k w hg
    have f4 := fil_set (fun w => [bv (okR w)]) [bv false] l k w hg
    have f5 : ∀ h, (fil decR Z4 l k)[k]'h = [iv 0, iv 0, iv 0, iv 0] := fun h => by
      have := fil_get decR Z4 l k hlt
      rw [List.getElem?_eq_getElem (by omega)] at this
      simpa [Z4] using this
    have f6 : ∀ h, (fil (fun w => [bv (okR w)]) [bv false] l k)[k]'h = [bv false] := fun h => by
      have := fil_get (fun w => [bv (okR w)]) [bv false] l k hlt
      rw [List.getElem?_eq_getElem (by omega)] at this
      simpa using this
    obtain ⟨a, b, c, d, hde⟩ := decR_four w
    rw [hde] at hd f3
    clear hU
    generalize fil decR Z4 l k = F1 at *
    generalize fil (fun w => [bv (okR w)]) [bv false] l k = F2 at *
    have hok : ((if okR w = true then (0 : Int) else 7) == 0) = okR w := by cases okR w <;> rfl
    have hlI : (k : Int) < l.length := by omega
    repeat' (first | ((with_reducible first | apply Wo_u | apply Wo_n | apply ex2 | apply W_sc | apply W_c | apply Wd_u | apply Wd_n | apply ex4 | apply EndQ_ret | apply EndQ_normal); (conv => lhs; simp -implicitDefEqProofs [*]) <;> exact rfl) | (with_reducible first | apply Wo_nil | apply W_ss | apply W_srl | apply W_rl | apply W_sblock | apply W_block | apply W_sskip | apply W_skip | apply W_sret | apply W_ret | apply W_sexit | apply W_exit | apply thenW_n | apply thenW_r | apply thenW_e | apply inB_n | apply inB_r | apply inB_e) | ((with_reducible apply Wo_gt); (exact rfl); ((conv => lhs; simp -implicitDefEqProofs [*]) <;> exact rfl); (conv => lhs; simp -implicitDefEqProofs [*]) <;> exact rfl) | ((with_reducible apply Wo_gf); (exact rfl); ((conv => lhs; simp -implicitDefEqProofs [*]) <;> exact rfl); (exact rfl)) | ((with_reducible apply Wo_gx); (exact rfl); ((conv => lhs; simp -implicitDefEqProofs [*]) <;> exact rfl)) | ((with_reducible apply Wo_gsT); (exact rfl); ((conv => lhs; simp -implicitDefEqProofs [*]) <;> exact rfl)) | ((with_reducible apply Wo_gsF); (exact rfl); ((conv => lhs; simp -implicitDefEqProofs [*]) <;> exact rfl)) | ((with_reducible apply Wd_gsT); (exact rfl); ((conv => lhs; simp -implicitDefEqProofs [*]) <;> exact rfl)) | ((with_reducible apply Wd_gsF); (exact rfl); ((conv => lhs; simp -implicitDefEqProofs [*]) <;> exact rfl)) | ((with_reducible first | apply W_srdl | apply W_rdl); kernel_rfl) | ((with_reducible apply Wd_nil); exact rfl) | ((with_reducible apply inB_o); rotate_left; exact rfl) | (intro h h'; try simp [*, -h] at h'))
    exact ⟨_, by omega, k + 1, rfl, hlt, by simp [*], by simp [*], by simp [*], by simp [*], by simp [*], by simp [*], by simp [*]⟩
  · obtain rfl : k = l.length := by omega
    rw [fil_all] at hh12 hh16
    have q1 : (rowD l).take l.length = rowD l := List.take_of_length_le (by simp)
    have q2 : (rowK l).take l.length = rowK l := List.take_of_length_le (by simp)
    exact step8
end Go.Proofs.YtaeeffddinppeaaGreatDoor
