/- A part of the proof: Ku, Kv, Ke, Kx, Kw, Ky, Kz. -/
import Derived.Test.YtaeeffddinppeaaGreatDoorC35
import Derived.Test.YtaeeffddinppeaaGreatDoorC33
import Derived.Test.YtaeeffddinppeaaGreatDoorC09
import Derived.Lib.Hide
import Derived.Test.YtaeeffddinppeaaGreatDoorC25
import Derived.Test.YtaeeffddinppeaaGreatDoorC27
import Derived.Test.YtaeeffddinppeaaGreatDoorC32
set_option linter.unusedSimpArgs false
set_option linter.unusedVariables false
namespace Go.Proofs.YtaeeffddinppeaaGreatDoor
open Go Go.Ab
theorem mir_get (l : List Int) (p : Nat) (h : p < 28) : (mirC l)[p]? = ((mI ((28 + l.length : Nat) : Int))[p]?).map Ins.enc := by
  unfold mirC mcode
  rw [List.getElem?_append_left (by simp [mI]; omega), List.getElem?_map]
theorem dec_N (n : Nat) (h : n ≤ 88) : decR (Ins.enc ⟨1, 4, 0, n⟩) = [iv 1, iv 4, iv 0, iv n] ∧ okR (Ins.enc ⟨1, 4, 0, n⟩) = true := by
  have e : insW (Ins.enc ⟨1, 4, 0, n⟩) = ⟨1, 4, 0, n⟩ := by
    unfold insW Ins.enc
    simp only [Ins.mk.injEq]
    omega
  have r : rightI ⟨1, 4, 0, n⟩ = true := by
    have h1 : partsOf 1 = ⟨#[97, 99]⟩ := by decide
    have h2 : hasB ⟨#[97, 99]⟩ 97 = true ∧ hasB ⟨#[97, 99]⟩ 98 = false ∧ hasB ⟨#[97, 99]⟩ 99 = true ∧ hasB ⟨#[97, 99]⟩ 114 = false := by decide
    unfold rightI
    simp only [h1, h2, wi, if_true, Bool.false_eq_true, if_false, Bool.or_false, Bool.and_eq_true, decide_eq_true_eq]
    refine ⟨⟨⟨by decide, by omega⟩, by simp⟩, by omega⟩
  unfold decR okR
  rw [e, r]
  exact ⟨rfl, rfl⟩
theorem dec_0 : decR (Ins.enc ⟨1, 1, 0, 83⟩) = [iv 1, iv 1, iv 0, iv 83] ∧ okR (Ins.enc ⟨1, 1, 0, 83⟩) = true := ⟨by kernel_rfl, by kernel_rfl⟩
theorem dec_1 : decR (Ins.enc ⟨24, 1, 0, 0⟩) = [iv 24, iv 1, iv 0, iv 0] ∧ okR (Ins.enc ⟨24, 1, 0, 0⟩) = true := ⟨by kernel_rfl, by kernel_rfl⟩
theorem dec_2 : decR (Ins.enc ⟨1, 1, 0, 69⟩) = [iv 1, iv 1, iv 0, iv 69] ∧ okR (Ins.enc ⟨1, 1, 0, 69⟩) = true := ⟨by kernel_rfl, by kernel_rfl⟩
theorem dec_3 : decR (Ins.enc ⟨1, 1, 0, 68⟩) = [iv 1, iv 1, iv 0, iv 68] ∧ okR (Ins.enc ⟨1, 1, 0, 68⟩) = true := ⟨by kernel_rfl, by kernel_rfl⟩
theorem dec_4 : decR (Ins.enc ⟨1, 8, 0, 8⟩) = [iv 1, iv 8, iv 0, iv 8] ∧ okR (Ins.enc ⟨1, 8, 0, 8⟩) = true := ⟨by kernel_rfl, by kernel_rfl⟩
theorem dec_5 : decR (Ins.enc ⟨1, 7, 0, 1⟩) = [iv 1, iv 7, iv 0, iv 1] ∧ okR (Ins.enc ⟨1, 7, 0, 1⟩) = true := ⟨by kernel_rfl, by kernel_rfl⟩
theorem dec_6 : decR (Ins.enc ⟨3, 2, 4, 0⟩) = [iv 3, iv 2, iv 4, iv 0] ∧ okR (Ins.enc ⟨3, 2, 4, 0⟩) = true := ⟨by kernel_rfl, by kernel_rfl⟩
theorem dec_7 : decR (Ins.enc ⟨21, 15, 0, 19⟩) = [iv 21, iv 15, iv 0, iv 19] ∧ okR (Ins.enc ⟨21, 15, 0, 19⟩) = true := ⟨by kernel_rfl, by kernel_rfl⟩
theorem dec_8 : decR (Ins.enc ⟨27, 2, 3, 0⟩) = [iv 27, iv 2, iv 3, iv 0] ∧ okR (Ins.enc ⟨27, 2, 3, 0⟩) = true := ⟨by kernel_rfl, by kernel_rfl⟩
theorem dec_9 : decR (Ins.enc ⟨4, 3, 3, 7⟩) = [iv 4, iv 3, iv 3, iv 7] ∧ okR (Ins.enc ⟨4, 3, 3, 7⟩) = true := ⟨by kernel_rfl, by kernel_rfl⟩
theorem dec_10 : decR (Ins.enc ⟨14, 5, 3, 4⟩) = [iv 14, iv 5, iv 3, iv 4] ∧ okR (Ins.enc ⟨14, 5, 3, 4⟩) = true := ⟨by kernel_rfl, by kernel_rfl⟩
theorem dec_11 : decR (Ins.enc ⟨20, 5, 0, 13⟩) = [iv 20, iv 5, iv 0, iv 13] ∧ okR (Ins.enc ⟨20, 5, 0, 13⟩) = true := ⟨by kernel_rfl, by kernel_rfl⟩
theorem dec_12 : decR (Ins.enc ⟨26, 0, 0, 0⟩) = [iv 26, iv 0, iv 0, iv 0] ∧ okR (Ins.enc ⟨26, 0, 0, 0⟩) = true := ⟨by kernel_rfl, by kernel_rfl⟩
theorem dec_13 : decR (Ins.enc ⟨24, 2, 0, 0⟩) = [iv 24, iv 2, iv 0, iv 0] ∧ okR (Ins.enc ⟨24, 2, 0, 0⟩) = true := ⟨by kernel_rfl, by kernel_rfl⟩
theorem dec_14 : decR (Ins.enc ⟨13, 2, 2, 8⟩) = [iv 13, iv 2, iv 2, iv 8] ∧ okR (Ins.enc ⟨13, 2, 2, 8⟩) = true := ⟨by kernel_rfl, by kernel_rfl⟩
theorem dec_15 : decR (Ins.enc ⟨22, 15, 0, 0⟩) = [iv 22, iv 15, iv 0, iv 0] ∧ okR (Ins.enc ⟨22, 15, 0, 0⟩) = true := ⟨by kernel_rfl, by kernel_rfl⟩
theorem at_0 (l : List Int) : (rowD (mirC l))[0]? = some [iv 1, iv 1, iv 0, iv 83] ∧ (rowK (mirC l))[0]? = some [bv true] := by
  have h := mir_get l 0 (by omega)
  rw [List.getElem?_map, List.getElem?_map, h]
  have d := dec_0
  exact ⟨congrArg some d.1, congrArg (fun b => some [bv b]) d.2⟩
theorem at_1 (l : List Int) : (rowD (mirC l))[1]? = some [iv 24, iv 1, iv 0, iv 0] ∧ (rowK (mirC l))[1]? = some [bv true] := by
  have h := mir_get l 1 (by omega)
  rw [List.getElem?_map, List.getElem?_map, h]
  have d := dec_1
  exact ⟨congrArg some d.1, congrArg (fun b => some [bv b]) d.2⟩
theorem at_2 (l : List Int) : (rowD (mirC l))[2]? = some [iv 1, iv 1, iv 0, iv 69] ∧ (rowK (mirC l))[2]? = some [bv true] := by
  have h := mir_get l 2 (by omega)
  rw [List.getElem?_map, List.getElem?_map, h]
  have d := dec_2
  exact ⟨congrArg some d.1, congrArg (fun b => some [bv b]) d.2⟩
theorem at_3 (l : List Int) : (rowD (mirC l))[3]? = some [iv 24, iv 1, iv 0, iv 0] ∧ (rowK (mirC l))[3]? = some [bv true] := by
  have h := mir_get l 3 (by omega)
  rw [List.getElem?_map, List.getElem?_map, h]
  have d := dec_1
  exact ⟨congrArg some d.1, congrArg (fun b => some [bv b]) d.2⟩
theorem at_4 (l : List Int) : (rowD (mirC l))[4]? = some [iv 24, iv 1, iv 0, iv 0] ∧ (rowK (mirC l))[4]? = some [bv true] := by
  have h := mir_get l 4 (by omega)
  rw [List.getElem?_map, List.getElem?_map, h]
  have d := dec_1
  exact ⟨congrArg some d.1, congrArg (fun b => some [bv b]) d.2⟩
theorem at_5 (l : List Int) : (rowD (mirC l))[5]? = some [iv 1, iv 1, iv 0, iv 68] ∧ (rowK (mirC l))[5]? = some [bv true] := by
  have h := mir_get l 5 (by omega)
  rw [List.getElem?_map, List.getElem?_map, h]
  have d := dec_3
  exact ⟨congrArg some d.1, congrArg (fun b => some [bv b]) d.2⟩
theorem at_6 (l : List Int) : (rowD (mirC l))[6]? = some [iv 24, iv 1, iv 0, iv 0] ∧ (rowK (mirC l))[6]? = some [bv true] := by
  have h := mir_get l 6 (by omega)
  rw [List.getElem?_map, List.getElem?_map, h]
  have d := dec_1
  exact ⟨congrArg some d.1, congrArg (fun b => some [bv b]) d.2⟩
theorem at_7 (l : List Int) : (rowD (mirC l))[7]? = some [iv 1, iv 8, iv 0, iv 8] ∧ (rowK (mirC l))[7]? = some [bv true] := by
  have h := mir_get l 7 (by omega)
  rw [List.getElem?_map, List.getElem?_map, h]
  have d := dec_4
  exact ⟨congrArg some d.1, congrArg (fun b => some [bv b]) d.2⟩
theorem at_8 (l : List Int) : (rowD (mirC l))[8]? = some [iv 1, iv 7, iv 0, iv 1] ∧ (rowK (mirC l))[8]? = some [bv true] := by
  have h := mir_get l 8 (by omega)
  rw [List.getElem?_map, List.getElem?_map, h]
  have d := dec_5
  exact ⟨congrArg some d.1, congrArg (fun b => some [bv b]) d.2⟩
theorem at_9 (l : List Int) (hl : l.length ≤ 60) : (rowD (mirC l))[9]? = some [iv 1, iv 4, iv 0, iv ((28 + l.length : Nat) : Int)] ∧ (rowK (mirC l))[9]? = some [bv true] := by
  have h := mir_get l 9 (by omega)
  rw [List.getElem?_map, List.getElem?_map, h]
  have d := dec_N (28 + l.length) (by omega)
  exact ⟨congrArg some d.1, congrArg (fun b => some [bv b]) d.2⟩
theorem at_10 (l : List Int) : (rowD (mirC l))[10]? = some [iv 3, iv 2, iv 4, iv 0] ∧ (rowK (mirC l))[10]? = some [bv true] := by
  have h := mir_get l 10 (by omega)
  rw [List.getElem?_map, List.getElem?_map, h]
  have d := dec_6
  exact ⟨congrArg some d.1, congrArg (fun b => some [bv b]) d.2⟩
theorem at_11 (l : List Int) : (rowD (mirC l))[11]? = some [iv 21, iv 15, iv 0, iv 19] ∧ (rowK (mirC l))[11]? = some [bv true] := by
  have h := mir_get l 11 (by omega)
  rw [List.getElem?_map, List.getElem?_map, h]
  have d := dec_7
  exact ⟨congrArg some d.1, congrArg (fun b => some [bv b]) d.2⟩
theorem at_12 (l : List Int) : (rowD (mirC l))[12]? = some [iv 21, iv 15, iv 0, iv 19] ∧ (rowK (mirC l))[12]? = some [bv true] := by
  have h := mir_get l 12 (by omega)
  rw [List.getElem?_map, List.getElem?_map, h]
  have d := dec_7
  exact ⟨congrArg some d.1, congrArg (fun b => some [bv b]) d.2⟩
theorem at_13 (l : List Int) : (rowD (mirC l))[13]? = some [iv 27, iv 2, iv 3, iv 0] ∧ (rowK (mirC l))[13]? = some [bv true] := by
  have h := mir_get l 13 (by omega)
  rw [List.getElem?_map, List.getElem?_map, h]
  have d := dec_8
  exact ⟨congrArg some d.1, congrArg (fun b => some [bv b]) d.2⟩
theorem at_14 (l : List Int) : (rowD (mirC l))[14]? = some [iv 21, iv 15, iv 0, iv 19] ∧ (rowK (mirC l))[14]? = some [bv true] := by
  have h := mir_get l 14 (by omega)
  rw [List.getElem?_map, List.getElem?_map, h]
  have d := dec_7
  exact ⟨congrArg some d.1, congrArg (fun b => some [bv b]) d.2⟩
theorem at_15 (l : List Int) : (rowD (mirC l))[15]? = some [iv 4, iv 3, iv 3, iv 7] ∧ (rowK (mirC l))[15]? = some [bv true] := by
  have h := mir_get l 15 (by omega)
  rw [List.getElem?_map, List.getElem?_map, h]
  have d := dec_9
  exact ⟨congrArg some d.1, congrArg (fun b => some [bv b]) d.2⟩
theorem at_16 (l : List Int) : (rowD (mirC l))[16]? = some [iv 14, iv 5, iv 3, iv 4] ∧ (rowK (mirC l))[16]? = some [bv true] := by
  have h := mir_get l 16 (by omega)
  rw [List.getElem?_map, List.getElem?_map, h]
  have d := dec_10
  exact ⟨congrArg some d.1, congrArg (fun b => some [bv b]) d.2⟩
theorem at_17 (l : List Int) : (rowD (mirC l))[17]? = some [iv 20, iv 5, iv 0, iv 13] ∧ (rowK (mirC l))[17]? = some [bv true] := by
  have h := mir_get l 17 (by omega)
  rw [List.getElem?_map, List.getElem?_map, h]
  have d := dec_11
  exact ⟨congrArg some d.1, congrArg (fun b => some [bv b]) d.2⟩
theorem at_18 (l : List Int) : (rowD (mirC l))[18]? = some [iv 26, iv 0, iv 0, iv 0] ∧ (rowK (mirC l))[18]? = some [bv true] := by
  have h := mir_get l 18 (by omega)
  rw [List.getElem?_map, List.getElem?_map, h]
  have d := dec_12
  exact ⟨congrArg some d.1, congrArg (fun b => some [bv b]) d.2⟩
theorem at_19 (l : List Int) : (rowD (mirC l))[19]? = some [iv 24, iv 2, iv 0, iv 0] ∧ (rowK (mirC l))[19]? = some [bv true] := by
  have h := mir_get l 19 (by omega)
  rw [List.getElem?_map, List.getElem?_map, h]
  have d := dec_13
  exact ⟨congrArg some d.1, congrArg (fun b => some [bv b]) d.2⟩
theorem at_20 (l : List Int) : (rowD (mirC l))[20]? = some [iv 13, iv 2, iv 2, iv 8] ∧ (rowK (mirC l))[20]? = some [bv true] := by
  have h := mir_get l 20 (by omega)
  rw [List.getElem?_map, List.getElem?_map, h]
  have d := dec_14
  exact ⟨congrArg some d.1, congrArg (fun b => some [bv b]) d.2⟩
theorem at_21 (l : List Int) : (rowD (mirC l))[21]? = some [iv 24, iv 2, iv 0, iv 0] ∧ (rowK (mirC l))[21]? = some [bv true] := by
  have h := mir_get l 21 (by omega)
  rw [List.getElem?_map, List.getElem?_map, h]
  have d := dec_13
  exact ⟨congrArg some d.1, congrArg (fun b => some [bv b]) d.2⟩
theorem at_22 (l : List Int) : (rowD (mirC l))[22]? = some [iv 13, iv 2, iv 2, iv 8] ∧ (rowK (mirC l))[22]? = some [bv true] := by
  have h := mir_get l 22 (by omega)
  rw [List.getElem?_map, List.getElem?_map, h]
  have d := dec_14
  exact ⟨congrArg some d.1, congrArg (fun b => some [bv b]) d.2⟩
theorem at_23 (l : List Int) : (rowD (mirC l))[23]? = some [iv 24, iv 2, iv 0, iv 0] ∧ (rowK (mirC l))[23]? = some [bv true] := by
  have h := mir_get l 23 (by omega)
  rw [List.getElem?_map, List.getElem?_map, h]
  have d := dec_13
  exact ⟨congrArg some d.1, congrArg (fun b => some [bv b]) d.2⟩
theorem at_24 (l : List Int) : (rowD (mirC l))[24]? = some [iv 13, iv 2, iv 2, iv 8] ∧ (rowK (mirC l))[24]? = some [bv true] := by
  have h := mir_get l 24 (by omega)
  rw [List.getElem?_map, List.getElem?_map, h]
  have d := dec_14
  exact ⟨congrArg some d.1, congrArg (fun b => some [bv b]) d.2⟩
theorem at_25 (l : List Int) : (rowD (mirC l))[25]? = some [iv 24, iv 2, iv 0, iv 0] ∧ (rowK (mirC l))[25]? = some [bv true] := by
  have h := mir_get l 25 (by omega)
  rw [List.getElem?_map, List.getElem?_map, h]
  have d := dec_13
  exact ⟨congrArg some d.1, congrArg (fun b => some [bv b]) d.2⟩
theorem at_26 (l : List Int) : (rowD (mirC l))[26]? = some [iv 13, iv 2, iv 2, iv 8] ∧ (rowK (mirC l))[26]? = some [bv true] := by
  have h := mir_get l 26 (by omega)
  rw [List.getElem?_map, List.getElem?_map, h]
  have d := dec_14
  exact ⟨congrArg some d.1, congrArg (fun b => some [bv b]) d.2⟩
theorem at_27 (l : List Int) : (rowD (mirC l))[27]? = some [iv 22, iv 15, iv 0, iv 0] ∧ (rowK (mirC l))[27]? = some [bv true] := by
  have h := mir_get l 27 (by omega)
  rw [List.getElem?_map, List.getElem?_map, h]
  have d := dec_15
  exact ⟨congrArg some d.1, congrArg (fun b => some [bv b]) d.2⟩
theorem h39 (l : List Int) (hl : l.length ≤ 60) (s : MS) (hs : Ok l s) (g : Nat) (inp : ByteArray) (cs : List Int) (d : Nat) (hp1 : Hp)
    (hx : hp1 ⟨0, 13, 0⟩ = .box 1 (bxc s g (mirC l).length (mirC l) inp) false) (ho : hp1 ⟨0, 13, 23⟩ = .arr g 1 5 (rowB s.out) false) (hc : hp1 ⟨0, 13, 24⟩ = .arr 2 4 119 (rowD (mirC l)) false)
    (hk : hp1 ⟨0, 13, 25⟩ = .arr 2 1 4 (rowK (mirC l)) false) (hn : hp1 ⟨0, 13, 28⟩ = .arr 2 1 3 (rowI cs) false) (hnl : cs.length = (mirC l).length) :
    ∃ hp' g' cs', (lim Tryz.prog E47 X47).hpc 0 d 162 [.ptr ⟨0, 13, 0⟩ 1 0] hp1 = some (.tup [], hp') ∧ Post (nx l s) g' (mirC l).length (mirC l) inp cs' hp1 hp' := by
  obtain ⟨o1, o2, o3, o4, o5, o6, o7, o8, o9, o10, o11, o12⟩ := hs
  have hlen := mirC_len l
  have hcl : (rowD (mirC l)).length = (mirC l).length := by simp
  have hkl : (rowK (mirC l)).length = (mirC l).length := by simp
  obtain ⟨pc, R, st, en, out⟩ := s
  simp only at o1 o2 o3 o4 o5 o6 o7 o8 o9 o10 o11 o12 ho
  subst o1
  have hp : pc = 0 ∨ pc = 1 ∨ pc = 2 ∨ pc = 3 ∨ pc = 4 ∨ pc = 5 ∨ pc = 6 ∨ pc = 7 ∨ pc = 8 ∨ pc = 9 ∨ pc = 10 ∨ pc = 11 ∨ pc = 12 ∨ pc = 13 ∨ pc = 14 ∨ pc = 15 ∨ pc = 16 ∨ pc = 17 ∨ pc = 18 ∨ pc = 19 ∨ pc = 20 ∨ pc = 21 ∨ pc = 22 ∨ pc = 23 ∨ pc = 24 ∨ pc = 25 ∨ pc = 26 ∨ pc = 27 := by omega
  rcases hp with rfl | rfl | rfl | rfl | rfl | rfl | rfl | rfl | rfl | rfl | rfl | rfl | rfl | rfl | rfl | rfl | rfl | rfl | rfl | rfl | rfl | rfl | rfl | rfl | rfl | rfl | rfl | rfl
  · have h := h39_li1 ⟨0, R, st, 0, out⟩ g _ _ inp _ _ cs 83 (by omega) d hp1 hx ho hc hcl (at_0 l).1 hk hkl (at_0 l).2 hn hnl (by simp only; omega) (by omega) o3
    exact h
  · have h := h39_put1 ⟨1, R, st, 0, out⟩ g _ _ inp _ _ cs o4 o5 d hp1 hx ho hc hcl (at_1 l).1 hk hkl (at_1 l).2 hn hnl (by simp only; omega) (by omega) o3
    exact h
  · have h := h39_li1 ⟨2, R, st, 0, out⟩ g _ _ inp _ _ cs 69 (by omega) d hp1 hx ho hc hcl (at_2 l).1 hk hkl (at_2 l).2 hn hnl (by simp only; omega) (by omega) o3
    exact h
  · have h := h39_put1 ⟨3, R, st, 0, out⟩ g _ _ inp _ _ cs o4 o5 d hp1 hx ho hc hcl (at_3 l).1 hk hkl (at_3 l).2 hn hnl (by simp only; omega) (by omega) o3
    exact h
  · have h := h39_put1 ⟨4, R, st, 0, out⟩ g _ _ inp _ _ cs o4 o5 d hp1 hx ho hc hcl (at_4 l).1 hk hkl (at_4 l).2 hn hnl (by simp only; omega) (by omega) o3
    exact h
  · have h := h39_li1 ⟨5, R, st, 0, out⟩ g _ _ inp _ _ cs 68 (by omega) d hp1 hx ho hc hcl (at_5 l).1 hk hkl (at_5 l).2 hn hnl (by simp only; omega) (by omega) o3
    exact h
  · have h := h39_put1 ⟨6, R, st, 0, out⟩ g _ _ inp _ _ cs o4 o5 d hp1 hx ho hc hcl (at_6 l).1 hk hkl (at_6 l).2 hn hnl (by simp only; omega) (by omega) o3
    exact h
  · have h := h39_li8 ⟨7, R, st, 0, out⟩ g _ _ inp _ _ cs 8 (by omega) d hp1 hx ho hc hcl (at_7 l).1 hk hkl (at_7 l).2 hn hnl (by simp only; omega) (by omega) o3
    exact h
  · have h := h39_li7 ⟨8, R, st, 0, out⟩ g _ _ inp _ _ cs 1 (by omega) d hp1 hx ho hc hcl (at_8 l).1 hk hkl (at_8 l).2 hn hnl (by simp only; omega) (by omega) o3
    exact h
  · have h := h39_li4 ⟨9, R, st, 0, out⟩ g _ _ inp _ _ cs (28 + l.length) (by omega) d hp1 hx ho hc hcl (at_9 l hl).1 hk hkl (at_9 l hl).2 hn hnl (by simp only; omega) (by omega) o3
    exact h
  · have h := h39_mov ⟨10, R, st, 0, out⟩ g _ _ inp _ _ cs d hp1 hx ho hc hcl (at_10 l).1 hk hkl (at_10 l).2 hn hnl (by simp only; omega) (by omega) o3
    exact h
  · have h := h39_call ⟨11, R, st, 0, out⟩ g _ _ inp _ _ cs d hp1 hx ho hc hcl (at_11 l).1 hk hkl (at_11 l).2 hn hnl (by simp only; omega) (by omega) o3
    exact h
  · have h := h39_call ⟨12, R, st, 0, out⟩ g _ _ inp _ _ cs d hp1 hx ho hc hcl (at_12 l).1 hk hkl (at_12 l).2 hn hnl (by simp only; omega) (by omega) o3
    exact h
  · obtain ⟨j, hj, hjl⟩ := o10 rfl
    have h := h39_ldc ⟨13, R, st, 0, out⟩ g _ _ inp _ _ cs j hj hjl (by omega) d hp1 hx ho hc hcl (at_13 l).1 hk hkl (at_13 l).2 hn hnl (by simp only; omega) (by omega) o3
    have e : nx l ⟨13, R, st, 0, out⟩ = sR ⟨13, R, st, 0, out⟩ 2 (mirC l)[j] := by
      show sR _ 2 ((mirC l).getD (R 3).toNat 0) = _
      rw [hj, Int.toNat_natCast, List.getD_eq_getElem?_getD, List.getElem?_eq_getElem hjl]; rfl
    rw [e]
    exact h
  · have h := h39_call ⟨14, R, st, 0, out⟩ g _ _ inp _ _ cs d hp1 hx ho hc hcl (at_14 l).1 hk hkl (at_14 l).2 hn hnl (by simp only; omega) (by omega) o3
    exact h
  · have h := h39_add ⟨15, R, st, 0, out⟩ g _ _ inp _ _ cs o7 o9 d hp1 hx ho hc hcl (at_15 l).1 hk hkl (at_15 l).2 hn hnl (by simp only; omega) (by omega) o3
    exact h
  · have h := h39_lt ⟨16, R, st, 0, out⟩ g _ _ inp _ _ cs o7 o8 d hp1 hx ho hc hcl (at_16 l).1 hk hkl (at_16 l).2 hn hnl (by simp only; omega) (by omega) o3
    exact h
  · have h := h39_jnz ⟨17, R, st, 0, out⟩ g _ _ inp _ _ cs d hp1 hx ho hc hcl (at_17 l).1 hk hkl (at_17 l).2 hn hnl (by simp only; omega) (by omega) o3
    exact h
  · have h := h39_halt ⟨18, R, st, 0, out⟩ g _ _ inp _ _ cs d hp1 hx ho hc hcl (at_18 l).1 hk hkl (at_18 l).2 hn hnl (by simp only; omega) (by omega) o3
    exact h
  · have h := h39_put2 ⟨19, R, st, 0, out⟩ g _ _ inp _ _ cs o4 o6.1 d hp1 hx ho hc hcl (at_19 l).1 hk hkl (at_19 l).2 hn hnl (by simp only; omega) (by omega) o3
    exact h
  · have h := h39_shr ⟨20, R, st, 0, out⟩ g _ _ inp _ _ cs o6 (o11 (by omega)) d hp1 hx ho hc hcl (at_20 l).1 hk hkl (at_20 l).2 hn hnl (by simp only; omega) (by omega) o3
    exact h
  · have h := h39_put2 ⟨21, R, st, 0, out⟩ g _ _ inp _ _ cs o4 o6.1 d hp1 hx ho hc hcl (at_21 l).1 hk hkl (at_21 l).2 hn hnl (by simp only; omega) (by omega) o3
    exact h
  · have h := h39_shr ⟨22, R, st, 0, out⟩ g _ _ inp _ _ cs o6 (o11 (by omega)) d hp1 hx ho hc hcl (at_22 l).1 hk hkl (at_22 l).2 hn hnl (by simp only; omega) (by omega) o3
    exact h
  · have h := h39_put2 ⟨23, R, st, 0, out⟩ g _ _ inp _ _ cs o4 o6.1 d hp1 hx ho hc hcl (at_23 l).1 hk hkl (at_23 l).2 hn hnl (by simp only; omega) (by omega) o3
    exact h
  · have h := h39_shr ⟨24, R, st, 0, out⟩ g _ _ inp _ _ cs o6 (o11 (by omega)) d hp1 hx ho hc hcl (at_24 l).1 hk hkl (at_24 l).2 hn hnl (by simp only; omega) (by omega) o3
    exact h
  · have h := h39_put2 ⟨25, R, st, 0, out⟩ g _ _ inp _ _ cs o4 o6.1 d hp1 hx ho hc hcl (at_25 l).1 hk hkl (at_25 l).2 hn hnl (by simp only; omega) (by omega) o3
    exact h
  · have h := h39_shr ⟨26, R, st, 0, out⟩ g _ _ inp _ _ cs o6 (o11 (by omega)) d hp1 hx ho hc hcl (at_26 l).1 hk hkl (at_26 l).2 hn hnl (by simp only; omega) (by omega) o3
    exact h
  · obtain ⟨q, hq, hq1⟩ := o12 rfl
    have h := h39_ret ⟨27, R, st, 0, out⟩ g _ _ inp _ _ cs q hq hq1 d hp1 hx ho hc hcl (at_27 l).1 hk hkl (at_27 l).2 hn hnl (by simp only; omega) (by omega) o3
    have e : nx l ⟨27, R, st, 0, out⟩ = ⟨q, R, st + 1, 0, out⟩ := by
      show (⟨(R 15).toNat, R, st + 1, 0, out⟩ : MS) = _
      rw [hq, Int.toNat_natCast]
    rw [e]
    exact h
end Go.Proofs.YtaeeffddinppeaaGreatDoor
namespace Go.Proofs.YtaeeffddinppeaaGreatDoor
open Go Go.Ab
attribute [-simp] Prog.bind getCs putCs
attribute [local simp ↓] run_bind
attribute [local simp ↓] runF_bind
attribute [local simp] run_getCsN runF_getCsN facetsC putCs_one run_putCsN runF_putCsN facetsW facetsH
theorem fnR {P : Program} {E : Cfg} {X : Orc} {f : Nat} {fn : Func} {c : Code} {args : List AV} {R : List AV → Prop} {ts : List TypeId} {rvs : List ResultVar} (hf : P.funcs[f]? = some fn) (hx : X.dat f args = none) (hb : fn.body = some c) (hok : bodyOk fn = true) (hl : args.length = fn.params.size + fn.nfree)
    (ht : rtys P f = ts) (hrv : fn.results.toList = rvs) (h : W P E 0 (lim P E X) c ⟨frame0 args, hp0⟩ (EndQ P ts rvs R)) : ∃ rs, (lim P E X).dat f args = some rs ∧ R rs := by
  obtain ⟨n, e, st, h1, h2⟩ := h
  cases e with
  | exit i => exact h2.elim
  | normal => obtain ⟨rs, hp', h3, h4⟩ := h2; exact ⟨rs, fnW hf hx hb hok hl ht hrv ⟨n, .normal, st, h1, rs, hp', h3, rfl⟩, h4⟩
  | ret => obtain ⟨rs, hp', h3, h4⟩ := h2; exact ⟨rs, fnW hf hx hb hok hl ht hrv ⟨n, .ret, st, h1, rs, hp', h3, rfl⟩, h4⟩
def RunR (t : MS) (rs : List AV) : Prop := ∃ cs : List AV, rs = [.agg (iv t.pc :: uv (t.R 0) :: uv (t.R 1) :: uv (t.R 2) :: uv (t.R 3) :: uv (t.R 4) :: uv (t.R 5) :: uv (t.R 6) :: uv (t.R 7) :: uv (t.R 8) :: uv (t.R 9) :: uv (t.R 10) :: uv (t.R 11) :: uv (t.R 12) :: uv (t.R 13) :: uv (t.R 14) :: uv (t.R 15) :: .vec 1 [] :: iv 0 :: .sc (.string ⟨⟨toBytes t.out⟩⟩) :: iv t.steps :: iv t.en :: []), .vec 1 (cs.map fun x => [x])]
set_option maxRecDepth 20000 in
set_option maxHeartbeats 8000000 in
theorem d34 (l : List Int) (hl : l.length ≤ 60) (hU : ∀ x ∈ l, U x) (inp : ByteArray) (fuel k : Nat) (t : MS) (hr : Run l ⟨0, fun _ => 0, 0, 0, []⟩ k t) (ht : t.en = 1) (hk : k < fuel) (hf : fuel ≤ 100000) : ∃ rs, (lim Tryz.prog E47 X47).dat 114 [.agg [.sl false 1 (rowW (mirC l)), iv 0], .sc (.string inp), .agg [iv 0, uv 0, uv 0, uv 0, uv 0, uv 0, uv 0, uv 0, uv 0, uv 0, uv 0, uv 0, uv 0, uv 0, uv 0, uv 0, uv 0, .sl false 1 [], iv 0, .sc (.string ⟨#[]⟩), iv 0, iv 0], iv fuel] = some rs ∧ RunR t rs := by
  refine fnR Tryz.func114 rfl rfl bodyOk_114 rfl rtys_114 rfl ?_
  have h38 := d38 (mirC l) 0 (by rw [mirC_len]; omega) (mirC_U l hl hU)
  have hlen := mirC_len l
  have hDl : (rowD (mirC l)).length = (mirC l).length := by simp
  have hKl : (rowK (mirC l)).length = (mirC l).length := by simp
  have n1 : ((mirC l).length : Int) * 8 ≤ 140737488355328 := by omega
  have n2 : ((mirC l).length : Int) ≤ 140737488355328 := by omega
  have n3 : ((mirC l).length : Int) ≤ 9223372036854775807 := by omega
  generalize hD : rowD (mirC l) = RD at h38 hDl
  generalize hK : rowK (mirC l) = RK at h38 hKl
  clear hlen
  repeat' (first | ((with_reducible first | apply Wo_u | apply Wo_n | apply ex2 | apply W_sc | apply W_c | apply Wd_u | apply Wd_n | apply ex4 | apply EndQ_ret | apply EndQ_normal); (conv => lhs; simp -implicitDefEqProofs [*]) <;> exact rfl) | (with_reducible first | apply Wo_nil | apply W_ss | apply W_srl | apply W_rl | apply W_sblock | apply W_block | apply W_sskip | apply W_skip | apply W_sret | apply W_ret | apply W_sexit | apply W_exit | apply thenW_n | apply thenW_r | apply thenW_e | apply inB_n | apply inB_r | apply inB_e) | ((with_reducible apply Wo_gt); (exact rfl); ((conv => lhs; simp -implicitDefEqProofs [*]) <;> exact rfl); (conv => lhs; simp -implicitDefEqProofs [*]) <;> exact rfl) | ((with_reducible apply Wo_gf); (exact rfl); ((conv => lhs; simp -implicitDefEqProofs [*]) <;> exact rfl); (exact rfl)) | ((with_reducible apply Wo_gx); (exact rfl); ((conv => lhs; simp -implicitDefEqProofs [*]) <;> exact rfl)) | ((with_reducible apply Wo_gsT); (exact rfl); ((conv => lhs; simp -implicitDefEqProofs [*]) <;> exact rfl)) | ((with_reducible apply Wo_gsF); (exact rfl); ((conv => lhs; simp -implicitDefEqProofs [*]) <;> exact rfl)) | ((with_reducible apply Wd_gsT); (exact rfl); ((conv => lhs; simp -implicitDefEqProofs [*]) <;> exact rfl)) | ((with_reducible apply Wd_gsF); (exact rfl); ((conv => lhs; simp -implicitDefEqProofs [*]) <;> exact rfl)) | ((with_reducible first | apply W_srdl | apply W_rdl); kernel_rfl) | ((with_reducible apply Wd_nil); exact rfl) | ((with_reducible apply inB_o); rotate_left; exact rfl) | (intro h h'; try simp [*, -h] at h'))
  refine W_loopS (n := k) (fun s0 m s => ∃ (i : Nat) (st : MS) (g : Nat) (cs : List Int), i + m = k ∧ Run l st m t ∧ s.fr 14 = iv i ∧ s.fr 13 = s0.fr 13 ∧ s.fr 3 = s0.fr 3 ∧ s.fr 8 = s0.fr 8 ∧ s.fr 9 = s0.fr 9 ∧ s.hp ⟨0, 13, 0⟩ = .box 1 (bxc st g (mirC l).length (mirC l) inp) false ∧ s.hp ⟨0, 13, 23⟩ = .arr g 1 5 (rowB st.out) false ∧ s.hp ⟨0, 13, 28⟩ = .arr 2 1 3 (rowI cs) false ∧ cs.length = (mirC l).length ∧ ∀ y : Nm, y.d = 0 → y ≠ ⟨0, 13, 0⟩ → y ≠ ⟨0, 13, 23⟩ → y ≠ ⟨0, 13, 28⟩ → s.hp y = s0.hp y) ⟨0, _, 2, List.replicate (mirC l).length 0, by simp, hr, by simp, by simp, by simp, by simp, by simp, by simp [bxc], by simp, by simp, by simp, fun y _ _ _ _ => rfl⟩ ?_
  rintro m ⟨fr, hp⟩ ⟨i, st, g, cs, him, hrun, hs14, hs13, hs3, hs8, hs9, hx, ho, hn, hnl, hfr⟩
  have hC := hfr ⟨0, 13, 24⟩ rfl (by simp) (by simp) (by simp)
  have hKK := hfr ⟨0, 13, 25⟩ rfl (by simp) (by simp) (by simp)
  have h18 := hfr ⟨0, 13, 18⟩ rfl (by simp) (by simp) (by simp)
  have h80 := hfr ⟨0, 8, 0⟩ rfl (by simp) (by simp) (by simp)
  have h818 := hfr ⟨0, 8, 18⟩ rfl (by simp) (by simp) (by simp)
  have h90 := hfr ⟨0, 9, 0⟩ rfl (by simp) (by simp) (by simp)
  simp at hs14 hs13 hs3 hs8 hs9 hC hKK h18 h80 h818 h90
  simp only at hx ho hn
  have hfr' := Lib.hid hfr
  clear hfr
  have hmf : (i : Int) < fuel := by omega
  have hiw := wrapN (k := i) (by omega)
  cases m with
  | zero =>
    obtain rfl : st = t := by cases hrun; rfl
    clear hr hrun hfr' him
    obtain ⟨p, R, sn, en, out⟩ := st
    simp only at ht
    subst ht
    simp only [bxc] at hx
    simp only at ho
    have hbr := bytes_rowB out
    have htk : (rowB out).take out.length = rowB out := List.take_of_length_le (by simp)
    have htn : (rowI cs).take (mirC l).length = rowI cs := List.take_of_length_le (by simp [hnl])
    have hnl2 : (rowI cs).length = (mirC l).length := by simp [hnl]
    repeat' (first | ((with_reducible first | apply Wo_u | apply Wo_n | apply ex2 | apply W_sc | apply W_c | apply Wd_u | apply Wd_n | apply ex4 | apply EndQ_ret | apply EndQ_normal); (conv => lhs; simp -implicitDefEqProofs [*]) <;> exact rfl) | (with_reducible first | apply Wo_nil | apply W_ss | apply W_srl | apply W_rl | apply W_sblock | apply W_block | apply W_sskip | apply W_skip | apply W_sret | apply W_ret | apply W_sexit | apply W_exit | apply thenW_n | apply thenW_r | apply thenW_e | apply inB_n | apply inB_r | apply inB_e) | ((with_reducible apply Wo_gt); (exact rfl); ((conv => lhs; simp -implicitDefEqProofs [*]) <;> exact rfl); (conv => lhs; simp -implicitDefEqProofs [*]) <;> exact rfl) | ((with_reducible apply Wo_gf); (exact rfl); ((conv => lhs; simp -implicitDefEqProofs [*]) <;> exact rfl); (exact rfl)) | ((with_reducible apply Wo_gx); (exact rfl); ((conv => lhs; simp -implicitDefEqProofs [*]) <;> exact rfl)) | ((with_reducible apply Wo_gsT); (exact rfl); ((conv => lhs; simp -implicitDefEqProofs [*]) <;> exact rfl)) | ((with_reducible apply Wo_gsF); (exact rfl); ((conv => lhs; simp -implicitDefEqProofs [*]) <;> exact rfl)) | ((with_reducible apply Wd_gsT); (exact rfl); ((conv => lhs; simp -implicitDefEqProofs [*]) <;> exact rfl)) | ((with_reducible apply Wd_gsF); (exact rfl); ((conv => lhs; simp -implicitDefEqProofs [*]) <;> exact rfl)) | ((with_reducible first | apply W_srdl | apply W_rdl); kernel_rfl) | ((with_reducible apply Wd_nil); exact rfl) | ((with_reducible apply inB_o); rotate_left; exact rfl) | (intro h h'; try simp [*, -h] at h'))
    all_goals exact ⟨cs.map iv, by simp⟩
  | succ m =>
    obtain ⟨hok, r⟩ : Ok l st ∧ Run l (nx l st) m t := by cases hrun with | step h r => exact ⟨h, r⟩
    obtain ⟨hp', g', cs', h39, hpo⟩ := h39 l hl st hok g inp cs 60 hp hx ho (by rw [hD]; exact hC) (by rw [hK]; exact hKK) hn hnl
    have hen := hok.1
    have hpo' := Lib.hid hpo
    have r' := Lib.hid r
    clear hr hrun hpo r hok
    simp only [bxc, hen] at hx
    clear hen
    repeat' (first | ((with_reducible first | apply Wo_u | apply Wo_n | apply ex2 | apply W_sc | apply W_c | apply Wd_u | apply Wd_n | apply ex4 | apply EndQ_ret | apply EndQ_normal); (conv => lhs; simp -implicitDefEqProofs [*]) <;> exact rfl) | (with_reducible first | apply Wo_nil | apply W_ss | apply W_srl | apply W_rl | apply W_sblock | apply W_block | apply W_sskip | apply W_skip | apply W_sret | apply W_ret | apply W_sexit | apply W_exit | apply thenW_n | apply thenW_r | apply thenW_e | apply inB_n | apply inB_r | apply inB_e) | ((with_reducible apply Wo_gt); (exact rfl); ((conv => lhs; simp -implicitDefEqProofs [*]) <;> exact rfl); (conv => lhs; simp -implicitDefEqProofs [*]) <;> exact rfl) | ((with_reducible apply Wo_gf); (exact rfl); ((conv => lhs; simp -implicitDefEqProofs [*]) <;> exact rfl); (exact rfl)) | ((with_reducible apply Wo_gx); (exact rfl); ((conv => lhs; simp -implicitDefEqProofs [*]) <;> exact rfl)) | ((with_reducible apply Wo_gsT); (exact rfl); ((conv => lhs; simp -implicitDefEqProofs [*]) <;> exact rfl)) | ((with_reducible apply Wo_gsF); (exact rfl); ((conv => lhs; simp -implicitDefEqProofs [*]) <;> exact rfl)) | ((with_reducible apply Wd_gsT); (exact rfl); ((conv => lhs; simp -implicitDefEqProofs [*]) <;> exact rfl)) | ((with_reducible apply Wd_gsF); (exact rfl); ((conv => lhs; simp -implicitDefEqProofs [*]) <;> exact rfl)) | ((with_reducible first | apply W_srdl | apply W_rdl); kernel_rfl) | ((with_reducible apply Wd_nil); exact rfl) | ((with_reducible apply inB_o); rotate_left; exact rfl) | (intro h h'; try simp [*, -h] at h'))
    obtain ⟨q1, q2, q3, q4, q5⟩ := hpo'.out
    exact ⟨m, by omega, i + 1, nx l st, g', cs', by omega, r'.out, by simp [*], by simp [*], by simp [*], by simp [*], by simp [*], q1, q2, q3, q4, fun y y0 y1 y2 y3 => (q5 y y0 y1 y2 y3).trans (hfr'.out y y0 y1 y2 y3)⟩
end Go.Proofs.YtaeeffddinppeaaGreatDoor
namespace Go.Proofs.YtaeeffddinppeaaGreatDoor
open Go Go.Ab
set_option maxHeartbeats 16000000 in
theorem d9 (s : ByteArray) (hs : s.size ≤ 1048576) : (lim Tryz.prog E47 X47).dat 15 [.sc (.string s)] = some (readR s) := by
  refine fnW Tryz.func15 rfl rfl bodyOk_15 rfl rtys_15 rfl ?_
  have hb1 : IntKind.i64.wrap 12 = 12 := by decide +kernel
  by_cases c0 : s.size < 12
  · have hr : readR s = [.agg [.vec 1 [], iv 0], iv 7] := by
      unfold readR; rw [if_neg]; intro h; have := ((imgB_iff s).1 h).1; omega
    have c1 : (s.size : Int) < 12 := by omega
    rw [hr]
    exact step8
  have c1 : ¬ (s.size : Int) < 12 := by omega
  obtain ⟨B0, h0, e0⟩ := byte_data (s := s) (i := 0) (by omega)
  obtain ⟨B1, h1, e1⟩ := byte_data (s := s) (i := 1) (by omega)
  obtain ⟨B2, h2, e2⟩ := byte_data (s := s) (i := 2) (by omega)
  obtain ⟨B3, h3, e3⟩ := byte_data (s := s) (i := 3) (by omega)
  by_cases d : byteAt s 0 = 83 ∧ byteAt s 1 = 69 ∧ byteAt s 2 = 69 ∧ byteAt s 3 = 68
  rotate_left
  · have hr : readR s = [.agg [.vec 1 [], iv 0], iv 7] := by
      unfold readR; rw [if_neg]; intro h; exact d ((seed_iff (by omega)).1 ((imgB_iff s).1 h).2.1)
    rw [hr]
    rw [← e0, ← e1, ← e2, ← e3] at d
    clear e0 e1 e2 e3 hr
    by_cases g0 : B0.toNat = 83
    · by_cases g1 : B1.toNat = 69
      · by_cases g2 : B2.toNat = 69
        · have g3 : ¬ B3.toNat = 68 := fun g3 => d ⟨by omega, by omega, by omega, by omega⟩
          have k3 : ¬ (B3.toNat : Int) = 68 := by omega
          clear d
          exact step8
        · have k2 : ¬ (B2.toNat : Int) = 69 := by omega
          clear d
          exact step8
      · have k1 : ¬ (B1.toNat : Int) = 69 := by omega
        clear d
        exact step8
    · have k0 : ¬ (B0.toNat : Int) = 83 := by omega
      clear d
      exact step8
  obtain ⟨d0, d1, d2, d3⟩ := d
  have g0 : B0.toNat = 83 := by omega
  have g1 : B1.toNat = 69 := by omega
  have g2 : B2.toNat = 69 := by omega
  have g3 : B3.toNat = 68 := by omega
  have hseed := (seed_iff (s := s) (by omega)).2 ⟨d0, d1, d2, d3⟩
  clear e0 e1 e2 e3 d0 d1 d2 d3
  have h4 := d20 s 4 hs (by omega)
  have h8 := d20 s 8 hs (by omega)
  simp only [Int.cast_ofNat_Int] at h4 h8
  have u4 := wordAt_U s 4
  have u8 := wordAt_U s 8
  unfold U at u4 u8
  have hco : codeOf s = upto (fun k => wordAt s (12 + 4 * k)) ((s.size - 12) / 4) := codeOf_eq s (by omega)
  have hR : readR s = if 32768 < wordAt s 8 ∨ 16384 < wordAt s 4 ∨ ¬ (s.size : Int) = 12 + 4 * wordAt s 4 then [.agg [.vec 1 [], iv 0], iv 7] else [.agg [.vec 1 (rowW (codeOf s)), iv (wordAt s 8)], iv 0] := by
    unfold readR
    by_cases hb : imgB s = true
    · have hi := (imgB_iff s).1 hb
      rw [if_pos hb, if_neg]
      have := hi.2.2.1
      have := hi.2.2.2.1
      have := hi.2.2.2.2
      omega
    · rw [if_neg hb, if_pos]
      by_cases z1 : 32768 < wordAt s 8
      · exact .inl z1
      · by_cases z2 : 16384 < wordAt s 4
        · exact .inr (.inl z2)
        · right; right; intro z3
          exact hb ((imgB_iff s).2 ⟨by omega, hseed, by omega, by omega, z3⟩)
  generalize hx4 : wordAt s 4 = x4 at h4 u4 hR
  generalize hx8 : wordAt s 8 = x8 at h8 u8 hR
  have w4 : IntKind.i64.wrap x4 = x4 := wrap64 (by omega) (by omega)
  have w8 : IntKind.i64.wrap x8 = x8 := wrap64 (by omega) (by omega)
  have m4 : IntKind.i64.wrap (4 * x4) = 4 * x4 := wrap64 (by omega) (by omega)
  have m12 : IntKind.i64.wrap (12 + 4 * x4) = 12 + 4 * x4 := wrap64 (by omega) (by omega)
  clear hseed hx4 hx8
  by_cases z2 : 16384 < x4
  · rw [if_pos (.inr (.inl z2))] at hR
    rw [hR]
    clear hR hco
    exact step8
  by_cases z1 : 32768 < x8
  · rw [if_pos (.inl z1)] at hR
    rw [hR]
    clear hR hco
    exact step8
  by_cases z3 : (s.size : Int) = 12 + 4 * x4
  rotate_left
  · rw [if_pos (.inr (.inr z3))] at hR
    rw [hR]
    clear hR hco
    exact step8
  rw [if_neg (by omega)] at hR
  rw [hR, hco]
  obtain ⟨n, hn⟩ : ∃ n : Nat, x4 = n := ⟨x4.toNat, by omega⟩
  subst hn
  have hsz : s.size = 12 + 4 * n := by omega
  rw [show (s.size - 12) / 4 = n by omega]
  have z4 : ((s.size : Int) != 12 + 4 * (n : Int)) = false := by simp [z3]
  have Z3 := Lib.hid z3
  have HS := Lib.hid hsz
  clear hR hco z3 hsz
  repeat' (first | ((with_reducible first | apply Wo_u | apply Wo_n | apply ex2 | apply W_sc | apply W_c | apply Wd_u | apply Wd_n | apply ex4 | apply EndQ_ret | apply EndQ_normal); (conv => lhs; simp -implicitDefEqProofs [*]) <;> exact rfl) | (with_reducible first | apply Wo_nil | apply W_ss | apply W_srl | apply W_rl | apply W_sblock | apply W_block | apply W_sskip | apply W_skip | apply W_sret | apply W_ret | apply W_sexit | apply W_exit | apply thenW_n | apply thenW_r | apply thenW_e | apply inB_n | apply inB_r | apply inB_e) | ((with_reducible apply Wo_gt); (exact rfl); ((conv => lhs; simp -implicitDefEqProofs [*]) <;> exact rfl); (conv => lhs; simp -implicitDefEqProofs [*]) <;> exact rfl) | ((with_reducible apply Wo_gf); (exact rfl); ((conv => lhs; simp -implicitDefEqProofs [*]) <;> exact rfl); (exact rfl)) | ((with_reducible apply Wo_gx); (exact rfl); ((conv => lhs; simp -implicitDefEqProofs [*]) <;> exact rfl)) | ((with_reducible apply Wo_gsT); (exact rfl); ((conv => lhs; simp -implicitDefEqProofs [*]) <;> exact rfl)) | ((with_reducible apply Wo_gsF); (exact rfl); ((conv => lhs; simp -implicitDefEqProofs [*]) <;> exact rfl)) | ((with_reducible apply Wd_gsT); (exact rfl); ((conv => lhs; simp -implicitDefEqProofs [*]) <;> exact rfl)) | ((with_reducible apply Wd_gsF); (exact rfl); ((conv => lhs; simp -implicitDefEqProofs [*]) <;> exact rfl)) | ((with_reducible first | apply W_srdl | apply W_rdl); kernel_rfl) | ((with_reducible apply Wd_nil); exact rfl) | ((with_reducible apply inB_o); rotate_left; exact rfl) | (intro h h'; try simp [*, -h] at h'))
  refine W_loopS (n := n) (fun s0 m q => ∃ k g : Nat, m = n - k ∧ k ≤ n ∧ q.fr 7 = iv k ∧ q.fr 0 = s0.fr 0 ∧ q.fr 4 = s0.fr 4 ∧ q.fr 2 = s0.fr 2 ∧ q.fr 6 = s0.fr 6 ∧ q.hp ⟨0, 2, 0⟩ = s0.hp ⟨0, 2, 0⟩ ∧ q.hp ⟨0, 2, 1⟩ = s0.hp ⟨0, 2, 1⟩ ∧ q.hp ⟨0, 6, 0⟩ = .box (s0.hp ⟨0, 6, 0⟩).gen [.own ⟨0, 6, 1⟩ g k, iv x8] false ∧ q.hp ⟨0, 6, 1⟩ = .arr g 1 32 (rowW (upto (fun k => wordAt s (12 + 4 * k)) k)) false) ⟨0, 2, by simp, by omega, by simp, by simp, by simp, by simp, by simp, by simp, by simp, by simp, by simp [upto]⟩ ?_
  rintro m ⟨fr, hp⟩ ⟨k, g, rfl, hk, hs7, hs0, hs4, hs2, hs6, hh2, hh21, hh6, hh61⟩
  simp at hs7 hs0 hs4 hs2 hs6 hh2 hh21 hh6 hh61
  have hul : (upto (fun k => wordAt s (12 + 4 * k)) k).length = k := upto_length _ _
  by_cases hlt : k < n
  · have hw := wrapN (k := k) (by omega)
    have hlI : (k : Int) < n := by omega
    have q4 : IntKind.i64.wrap (4 * (k : Int)) = 4 * k := wrap64 (by omega) (by omega)
    have q12 : IntKind.i64.wrap (12 + 4 * (k : Int)) = 12 + 4 * (k : Int) := wrap64 (by omega) (by omega)
    have hd := d20 s (12 + 4 * k) hs (by have := HS.out; omega)
    simp only [Int.natCast_add, Int.natCast_mul, Int.cast_ofNat_Int] at hd
    have hap : rowW (upto (fun k => wordAt s (12 + 4 * k)) k) ++ [[uv (wordAt s (12 + 4 * k))]] = rowW (upto (fun k => wordAt s (12 + 4 * k)) (k + 1)) := by rw [upto_succ]; simp
    have b1 : (k + 1) * 4 ≤ 140737488355328 := by omega
    have b2 : k ≤ 9223372036854775806 := by omega
    repeat' (first | ((with_reducible first | apply Wo_u | apply Wo_n | apply ex2 | apply W_sc | apply W_c | apply Wd_u | apply Wd_n | apply ex4 | apply EndQ_ret | apply EndQ_normal); (conv => lhs; simp -implicitDefEqProofs [*]) <;> exact rfl) | (with_reducible first | apply Wo_nil | apply W_ss | apply W_srl | apply W_rl | apply W_sblock | apply W_block | apply W_sskip | apply W_skip | apply W_sret | apply W_ret | apply W_sexit | apply W_exit | apply thenW_n | apply thenW_r | apply thenW_e | apply inB_n | apply inB_r | apply inB_e) | ((with_reducible apply Wo_gt); (exact rfl); ((conv => lhs; simp -implicitDefEqProofs [*]) <;> exact rfl); (conv => lhs; simp -implicitDefEqProofs [*]) <;> exact rfl) | ((with_reducible apply Wo_gf); (exact rfl); ((conv => lhs; simp -implicitDefEqProofs [*]) <;> exact rfl); (exact rfl)) | ((with_reducible apply Wo_gx); (exact rfl); ((conv => lhs; simp -implicitDefEqProofs [*]) <;> exact rfl)) | ((with_reducible apply Wo_gsT); (exact rfl); ((conv => lhs; simp -implicitDefEqProofs [*]) <;> exact rfl)) | ((with_reducible apply Wo_gsF); (exact rfl); ((conv => lhs; simp -implicitDefEqProofs [*]) <;> exact rfl)) | ((with_reducible apply Wd_gsT); (exact rfl); ((conv => lhs; simp -implicitDefEqProofs [*]) <;> exact rfl)) | ((with_reducible apply Wd_gsF); (exact rfl); ((conv => lhs; simp -implicitDefEqProofs [*]) <;> exact rfl)) | ((with_reducible first | apply W_srdl | apply W_rdl); kernel_rfl) | ((with_reducible apply Wd_nil); exact rfl) | ((with_reducible apply inB_o); rotate_left; exact rfl) | (intro h h'; try simp [*, -h] at h'))
    exact ⟨_, by omega, k + 1, g + 1, rfl, hlt, by simp, by simp [*], by simp [*], by simp [*], by simp [*], by simp [*], by simp [*], by simp [*], by simp [*]⟩
  · obtain rfl : k = n := by omega
    have htk : (rowW (upto (fun k => wordAt s (12 + 4 * k)) k)).take k = rowW (upto (fun k => wordAt s (12 + 4 * k)) k) := List.take_of_length_le (by simp [hul])
    exact step8
end Go.Proofs.YtaeeffddinppeaaGreatDoor
namespace Go.Proofs.YtaeeffddinppeaaGreatDoor
open Go Go.Ab
attribute [-simp] Prog.bind getCs putCs
attribute [local simp ↓] run_bind
attribute [local simp ↓] runF_bind
attribute [local simp] run_getCsN runF_getCsN facetsC putCs_one run_putCsN runF_putCsN facetsW facetsH
set_option maxRecDepth 20000 in
set_option maxHeartbeats 8000000 in
theorem d27 (l : List Int) (hl : l.length ≤ 60) (hU : ∀ x ∈ l, U x) (inp : ByteArray) (fuel k : Nat) (t : MS) (hr : Run l ⟨0, fun _ => 0, 0, 0, []⟩ k t) (ht : t.en = 1) (hk : k < fuel) (hf : fuel ≤ 100000) : (lim Tryz.prog E47 X47).dat 74 [.agg [.sl false 1 (rowW (mirC l)), iv 0], .sc (.string inp), .agg [iv 0, uv 0, uv 0, uv 0, uv 0, uv 0, uv 0, uv 0, uv 0, uv 0, uv 0, uv 0, uv 0, uv 0, uv 0, uv 0, uv 0, .sl false 1 [], iv 0, .sc (.string ⟨#[]⟩), iv 0, iv 0], iv fuel] = some [.agg (iv t.pc :: uv (t.R 0) :: uv (t.R 1) :: uv (t.R 2) :: uv (t.R 3) :: uv (t.R 4) :: uv (t.R 5) :: uv (t.R 6) :: uv (t.R 7) :: uv (t.R 8) :: uv (t.R 9) :: uv (t.R 10) :: uv (t.R 11) :: uv (t.R 12) :: uv (t.R 13) :: uv (t.R 14) :: uv (t.R 15) :: .vec 1 [] :: iv 0 :: .sc (.string ⟨⟨toBytes t.out⟩⟩) :: iv t.steps :: iv t.en :: [])] := by
  refine fnW Tryz.func74 rfl rfl bodyOk_74 rfl rtys_74 rfl ?_
  obtain ⟨rs, h34, cs, rfl⟩ := d34 l hl hU inp fuel k t hr ht hk hf
  clear hr
  repeat' (first | ((with_reducible first | apply Wo_u | apply Wo_n | apply ex2 | apply W_sc | apply W_c | apply Wd_u | apply Wd_n | apply ex4 | apply EndQ_ret | apply EndQ_normal); (conv => lhs; simp -implicitDefEqProofs [*]) <;> exact rfl) | (with_reducible first | apply Wo_nil | apply W_ss | apply W_srl | apply W_rl | apply W_sblock | apply W_block | apply W_sskip | apply W_skip | apply W_sret | apply W_ret | apply W_sexit | apply W_exit | apply thenW_n | apply thenW_r | apply thenW_e | apply inB_n | apply inB_r | apply inB_e) | ((with_reducible apply Wo_gt); (exact rfl); ((conv => lhs; simp -implicitDefEqProofs [*]) <;> exact rfl); (conv => lhs; simp -implicitDefEqProofs [*]) <;> exact rfl) | ((with_reducible apply Wo_gf); (exact rfl); ((conv => lhs; simp -implicitDefEqProofs [*]) <;> exact rfl); (exact rfl)) | ((with_reducible apply Wo_gx); (exact rfl); ((conv => lhs; simp -implicitDefEqProofs [*]) <;> exact rfl)) | ((with_reducible apply Wo_gsT); (exact rfl); ((conv => lhs; simp -implicitDefEqProofs [*]) <;> exact rfl)) | ((with_reducible apply Wo_gsF); (exact rfl); ((conv => lhs; simp -implicitDefEqProofs [*]) <;> exact rfl)) | ((with_reducible apply Wd_gsT); (exact rfl); ((conv => lhs; simp -implicitDefEqProofs [*]) <;> exact rfl)) | ((with_reducible apply Wd_gsF); (exact rfl); ((conv => lhs; simp -implicitDefEqProofs [*]) <;> exact rfl)) | ((with_reducible first | apply W_srdl | apply W_rdl); kernel_rfl) | ((with_reducible apply Wd_nil); exact rfl) | ((with_reducible apply inB_o); rotate_left; exact rfl) | (intro h h'; try simp [*, -h] at h'))
  all_goals rw [ht]
theorem d21 (l : List Int) (hl : l.length ≤ 60) (hU : ∀ x ∈ l, U x) (inp : ByteArray) (fuel k : Nat) (t : MS) (hr : Run l ⟨0, fun _ => 0, 0, 0, []⟩ k t) (ht : t.en = 1) (hk : k < fuel) (hf : fuel ≤ 100000) : (lim Tryz.prog E47 X47).dat 51 [.agg [.sl false 1 (rowW (mirC l)), iv 0], .sc (.string inp), iv fuel] = some [.agg [iv 1, .sc (.string ⟨⟨toBytes t.out⟩⟩), iv t.steps]] := by
  refine fnW Tryz.func51 rfl rfl bodyOk_51 rfl rtys_51 rfl ?_
  have h27 := d27 l hl hU inp fuel k t hr ht hk hf
  have h28 := d28 (mirC l)
  simp at h28
  rw [ht] at h27
  clear hr
  exact step8
theorem d11 (l : List Int) (hl : l.length ≤ 60) (hU : ∀ x ∈ l, U x) (inp : ByteArray) : (lim Tryz.prog E47 X47).dat 36 [.sc (.string (txtI (mirC l) 0)), .sc (.string inp)] = some [bv true] := by
  refine fnW Tryz.func36 rfl rfl bodyOk_36 rfl rtys_36 rfl ?_
  have hlen := mirC_len l
  obtain ⟨t, hr, ht, ho⟩ := run_mirror l hl hU
  obtain ⟨fuel, hfu⟩ : ∃ fuel, fuel = 100 * (mirC l).length + 1000 := ⟨_, rfl⟩
  have h21 := d21 l hl hU inp fuel _ t hr ht (by omega) (by omega)
  obtain ⟨i1, i2, i3⟩ := img_txtI (mirC l) 0 (by omega) (by omega) (mirC_U l hl hU)
  have h9 := d9 (txtI (mirC l) 0) (by rw [txtI_size]; omega)
  unfold readR at h9
  rw [if_pos i1, i2, i3] at h9
  have hout : (⟨⟨toBytes t.out⟩⟩ : ByteArray) = txtI (mirC l) 0 := by
    apply ba_ext
    rw [txtI_list, ho]
    simp [toBytes_app, bys_cons, toBytes]
  rw [hout] at h21
  clear hr ho i1 i2 i3 hout
  have w1 : IntKind.i64.wrap (100 * ((mirC l).length : Int)) = 100 * ((mirC l).length : Int) := wrap64 (by omega) (by omega)
  have w2 : IntKind.i64.wrap (100 * ((mirC l).length : Int) + 1000) = fuel := by rw [wrap64 (by omega) (by omega)]; omega
  have htk : (rowW (mirC l)).take (mirC l).length = rowW (mirC l) := List.take_of_length_le (by simp)
  clear hlen hfu ht
  generalize txtI (mirC l) 0 = T at *
  exact step8
end Go.Proofs.YtaeeffddinppeaaGreatDoor
namespace Go.Proofs.YtaeeffddinppeaaGreatDoor
open Go Go.Ab
theorem d22 (s : ByteArray) (hs : s.size ≤ 1048576) : (lim Tryz.prog E47 X47).dat 63 [.sc (.string s)] = some (readR s) := lim_dat.2 ⟨0, by show X47.dat 63 _ = _; simp [X47, readO, hs]⟩
def plantR (s : ByteArray) (at_ w : Int) : List AV :=
  if imgB s then (if 0 ≤ at_ ∧ at_ < (codeOf s).length then [.sc (.string (txtI ((codeOf s).set at_.toNat w) (wordAt s 8))), iv 0] else [.sc (.string ⟨#[]⟩), iv 1]) else [.sc (.string ⟨#[]⟩), iv 7]
set_option maxHeartbeats 4000000 in
theorem d13 (s : ByteArray) (at_ w : Int) (hs : s.size ≤ 1048576) (hw : U w) : (lim Tryz.prog E47 X47).dat 34 [.sc (.string s), iv at_, uv w] = some (plantR s at_ w) := by
  refine fnW Tryz.func34 rfl rfl bodyOk_34 rfl rtys_34 rfl ?_
  have hr := d22 s hs
  unfold plantR
  unfold readR at hr
  cases hb : imgB s with
  | false =>
    rw [if_neg (by rw [hb]; simp)] at hr
    rw [if_neg (by simp)]
    clear hb
    exact step8
  | true =>
    rw [if_pos (by rw [hb])] at hr
    rw [if_pos rfl]
    obtain ⟨hCU, hCl, hD⟩ := codeOf_U s hb
    clear hb
    generalize codeOf s = C at *
    generalize wordAt s 8 = D at *
    by_cases c1 : at_ < 0
    · rw [if_neg (by omega)]
      exact step8
    · by_cases c2 : (C.length : Int) ≤ at_
      · rw [if_neg (by omega)]
        exact step8
      · rw [if_pos (by omega)]
        obtain ⟨k, rfl⟩ : ∃ k : Nat, at_ = k := ⟨at_.toNat, by omega⟩
        have hk : k < C.length := by omega
        have hl1 : (C.set k w).length = C.length := by simp
        have hput := d19 (C.set k w) D (by omega) hD (fun x hx => by
          rcases List.mem_or_eq_of_mem_set hx with h | rfl
          · exact hCU x h
          · exact hw)
        have hset := rowW_set C k w
        have n1 : C.length * 4 ≤ 140737488355328 := by omega
        have n2 : C.length ≤ 9223372036854775807 := by omega
        have htk : (rowW (C.set k w)).take C.length = rowW (C.set k w) := List.take_of_length_le (by simp)
        rw [Int.toNat_natCast]
        obtain ⟨C', hC'⟩ : ∃ C', C' = C.set k w := ⟨_, rfl⟩
        rw [← hC'] at hl1 hput hset htk ⊢
        obtain ⟨RC, hRC⟩ : ∃ RC, RC = rowW C := ⟨_, rfl⟩
        have hRl : RC.length = C.length := by rw [hRC]; simp
        obtain ⟨cx, hRg⟩ : ∃ cx, ∀ h, RC[k]'h = [uv cx] := ⟨C[k], fun h => by subst hRC; simp⟩
        have hRt : RC.take C.length = RC := List.take_of_length_le (by omega)
        rw [← hRC] at hset hr
        clear hC' hRC hCU hw hs
        exact step8
end Go.Proofs.YtaeeffddinppeaaGreatDoor
namespace Go.Proofs.YtaeeffddinppeaaGreatDoor
open Go Go.Ab
abbrev rowS (l : List ByteArray) : List (List AV) := l.map fun x => [.sc (.string x)]
def cutR15 (l : List ByteArray) (n : Int) : List AV := if 0 ≤ n ∧ n ≤ l.length then [.agg [.sl false 1 (rowS (l.take n.toNat))], iv 0] else [.agg [.vec 1 []], iv 1]
set_option maxHeartbeats 4000000 in
theorem d15 (l : List ByteArray) (n : Int) (hl : l.length ≤ 1048576) : (lim Tryz.prog E47 X47).dat 35 [.agg [.sl false 1 (rowS l)], iv n] = some (cutR15 l n) := by
  refine fnW Tryz.func35 rfl rfl bodyOk_35 rfl rtys_35 rfl ?_
  unfold cutR15
  by_cases c1 : n < 0
  · rw [if_neg (by omega)]
    exact step8
  · by_cases c2 : (l.length : Int) < n
    · rw [if_neg (by omega)]
      exact step8
    · rw [if_pos (by omega)]
      obtain ⟨k, rfl⟩ : ∃ k : Nat, n = k := ⟨n.toNat, by omega⟩
      have hk : k ≤ l.length := by omega
      rw [Int.toNat_natCast]
      have n1 : k * 16 ≤ 140737488355328 := by omega
      have n2 : k ≤ 9223372036854775807 := by omega
      have n3 : (k : Int) * 16 ≤ 140737488355328 := by omega
      have n4 : (k : Int) ≤ 9223372036854775807 := by omega
      have n5 : (0 : Int) ≤ k := by omega
      have n6 : (k : Int) ≤ l.length := by omega
      have n7 : min k l.length = k := by omega
      have n8 : k ≤ 140737488355328 := by omega
      repeat' (first | ((with_reducible first | apply Wo_u | apply Wo_n | apply ex2 | apply W_sc | apply W_c | apply Wd_u | apply Wd_n | apply ex4 | apply EndQ_ret | apply EndQ_normal); (conv => lhs; simp -implicitDefEqProofs [*]) <;> exact rfl) | (with_reducible first | apply Wo_nil | apply W_ss | apply W_srl | apply W_rl | apply W_sblock | apply W_block | apply W_sskip | apply W_skip | apply W_sret | apply W_ret | apply W_sexit | apply W_exit | apply thenW_n | apply thenW_r | apply thenW_e | apply inB_n | apply inB_r | apply inB_e) | ((with_reducible apply Wo_gt); (exact rfl); ((conv => lhs; simp -implicitDefEqProofs [*]) <;> exact rfl); (conv => lhs; simp -implicitDefEqProofs [*]) <;> exact rfl) | ((with_reducible apply Wo_gf); (exact rfl); ((conv => lhs; simp -implicitDefEqProofs [*]) <;> exact rfl); (exact rfl)) | ((with_reducible apply Wo_gx); (exact rfl); ((conv => lhs; simp -implicitDefEqProofs [*]) <;> exact rfl)) | ((with_reducible apply Wo_gsT); (exact rfl); ((conv => lhs; simp -implicitDefEqProofs [*]) <;> exact rfl)) | ((with_reducible apply Wo_gsF); (exact rfl); ((conv => lhs; simp -implicitDefEqProofs [*]) <;> exact rfl)) | ((with_reducible apply Wd_gsT); (exact rfl); ((conv => lhs; simp -implicitDefEqProofs [*]) <;> exact rfl)) | ((with_reducible apply Wd_gsF); (exact rfl); ((conv => lhs; simp -implicitDefEqProofs [*]) <;> exact rfl)) | ((with_reducible first | apply W_srdl | apply W_rdl); kernel_rfl) | ((with_reducible apply Wd_nil); exact rfl) | ((with_reducible apply inB_o); rotate_left; exact rfl) | (intro h h'; try simp [*, -h] at h'))
      all_goals (unfold rowS; rw [List.map_take])
end Go.Proofs.YtaeeffddinppeaaGreatDoor
namespace Go.Proofs.YtaeeffddinppeaaGreatDoor
open Go Go.Ab
attribute [-simp] Prog.bind getCs putCs
attribute [local simp ↓] run_bind
attribute [local simp ↓] runF_bind
attribute [local simp] run_getCsN runF_getCsN facetsC putCs_one run_putCsN runF_putCsN facetsW facetsH
theorem a13_1 : (lim Tryz.prog E47 X47).dat 34 [.sc (.string ⟨#[83, 69, 69, 68, 1, 0, 0, 0, 2, 0, 0, 0, 5, 0, 0, 0]⟩), iv 0, uv 9] = some [.sc (.string ⟨#[83, 69, 69, 68, 1, 0, 0, 0, 2, 0, 0, 0, 9, 0, 0, 0]⟩), iv 0] := by
  rw [d13 _ _ _ (by decide) (by unfold U; omega)]
  have : imgB ⟨#[83, 69, 69, 68, 1, 0, 0, 0, 2, 0, 0, 0, 5, 0, 0, 0]⟩ = true := by decide +kernel
  have h2 : (codeOf ⟨#[83, 69, 69, 68, 1, 0, 0, 0, 2, 0, 0, 0, 5, 0, 0, 0]⟩) = [5] := by decide +kernel
  have h3 : wordAt ⟨#[83, 69, 69, 68, 1, 0, 0, 0, 2, 0, 0, 0, 5, 0, 0, 0]⟩ 8 = 2 := by decide +kernel
  unfold plantR
  rw [if_pos this, h2, h3, if_pos (by simp)]
  have h4 : txtI [9] 2 = ⟨#[83, 69, 69, 68, 1, 0, 0, 0, 2, 0, 0, 0, 9, 0, 0, 0]⟩ := by decide +kernel
  simp [h4]
theorem a13_2 : (lim Tryz.prog E47 X47).dat 34 [.sc (.string ⟨#[83, 69, 69, 68]⟩), iv 0, uv 9] = some [.sc (.string ⟨#[]⟩), iv 7] := by
  rw [d13 _ _ _ (by decide) (by unfold U; omega)]
  have : imgB ⟨#[83, 69, 69, 68]⟩ = false := by decide +kernel
  unfold plantR
  rw [if_neg (by rw [this]; simp)]
set_option maxHeartbeats 4000000 in
theorem d7 : (lim Tryz.prog E47 X47).dat 13 [] = some [bv true] := by
  refine fnW Tryz.func13 rfl rfl bodyOk_13 rfl rtys_13 rfl ?_
  have u1 : ∀ x ∈ ([1, 2, 3] : List Int), U x := by simp [U]
  have h1 := d8 [1, 2, 3] (by simp) u1
  have h2 := d11 [1, 2, 3] (by simp) u1 ⟨#[97, 98]⟩
  have h3 := d8_long (List.replicate 1001 0) (by rw [List.length_replicate]; omega)
  have h4 := a13_1
  have h5 := a13_2
  have h6 := d15 [⟨#[97]⟩, ⟨#[98]⟩] 1 (by simp)
  have h7 := d15 [⟨#[97]⟩] 2 (by simp)
  unfold cutR15 at h6 h7
  rw [if_pos (by simp)] at h6
  rw [if_neg (by simp)] at h7
  simp at h1 h6 h7
  have e3 : rowW (List.replicate 1001 0) = List.replicate 1001 [uv 0] := List.map_replicate
  rw [e3] at h3
  clear e3 u1
  have rp3 : ∀ x : List AV, List.replicate 3 x = [x, x, x] := fun _ => rfl
  have rp2 : ∀ x : List AV, List.replicate 2 x = [x, x] := fun _ => rfl
  generalize txtI (mirC [1, 2, 3]) 0 = T at h1 h2
  repeat' (first | ((with_reducible apply Wo_u); (conv => lhs; simp -implicitDefEqProofs [*, -List.reduceReplicate]) <;> exact rfl) | ((with_reducible apply Wo_n); (conv => lhs; simp -implicitDefEqProofs [*, -List.reduceReplicate]) <;> exact rfl) | (with_reducible apply Wo_nil) | ((with_reducible apply Wo_gt); (exact rfl); ((conv => lhs; simp -implicitDefEqProofs [*, -List.reduceReplicate]) <;> exact rfl); (conv => lhs; simp -implicitDefEqProofs [*, -List.reduceReplicate]) <;> exact rfl) | ((with_reducible apply Wo_gf); (exact rfl); ((conv => lhs; simp -implicitDefEqProofs [*, -List.reduceReplicate]) <;> exact rfl); (exact rfl)) | ((with_reducible apply Wo_gx); (exact rfl); ((conv => lhs; simp -implicitDefEqProofs [*, -List.reduceReplicate]) <;> exact rfl)) | ((with_reducible apply Wo_gsT); (exact rfl); ((conv => lhs; simp -implicitDefEqProofs [*, -List.reduceReplicate]) <;> exact rfl)) | ((with_reducible apply Wo_gsF); (exact rfl); ((conv => lhs; simp -implicitDefEqProofs [*, -List.reduceReplicate]) <;> exact rfl)) | ((with_reducible apply ex2); (conv => lhs; simp -implicitDefEqProofs [*, -List.reduceReplicate]) <;> exact rfl) | (with_reducible apply W_ss) | (with_reducible apply W_srl) | (with_reducible apply W_rl) | ((with_reducible apply W_sc); (conv => lhs; simp -implicitDefEqProofs [*, -List.reduceReplicate]) <;> exact rfl) | ((with_reducible apply W_c); (conv => lhs; simp -implicitDefEqProofs [*, -List.reduceReplicate]) <;> exact rfl) | ((with_reducible apply W_srdl); kernel_rfl) | ((with_reducible apply W_rdl); kernel_rfl) | ((with_reducible apply Wd_u); (conv => lhs; simp -implicitDefEqProofs [*, -List.reduceReplicate]) <;> exact rfl) | ((with_reducible apply Wd_n); (conv => lhs; simp -implicitDefEqProofs [*, -List.reduceReplicate]) <;> exact rfl) | ((with_reducible apply Wd_nil); exact rfl) | ((with_reducible apply Wd_gsT); (exact rfl); ((conv => lhs; simp -implicitDefEqProofs [*, -List.reduceReplicate]) <;> exact rfl)) | ((with_reducible apply Wd_gsF); (exact rfl); ((conv => lhs; simp -implicitDefEqProofs [*, -List.reduceReplicate]) <;> exact rfl)) | ((with_reducible apply ex4); (conv => lhs; simp -implicitDefEqProofs [*, -List.reduceReplicate]) <;> exact rfl) | (with_reducible apply W_sblock) | (with_reducible apply W_block) | (with_reducible apply W_sskip) | (with_reducible apply W_skip) | (with_reducible apply W_sret) | (with_reducible apply W_ret) | (with_reducible apply W_sexit) | (with_reducible apply W_exit) | (with_reducible apply thenW_n) | (with_reducible apply thenW_r) | (with_reducible apply thenW_e) | (with_reducible apply inB_n) | (with_reducible apply inB_r) | (with_reducible apply inB_e) | ((with_reducible apply inB_o); rotate_left; exact rfl) | ((with_reducible apply EndQ_ret); (conv => lhs; simp -implicitDefEqProofs [*, -List.reduceReplicate]) <;> exact rfl) | ((with_reducible apply EndQ_normal); (conv => lhs; simp -implicitDefEqProofs [*, -List.reduceReplicate]) <;> exact rfl) | (intro h h'; try simp [*, -h] at h'))
  all_goals rfl
end Go.Proofs.YtaeeffddinppeaaGreatDoor
