/- Law 47: the step on a mirror. -/
import Derived.Test.YtdokejnokhicbaaGreatDoorMa
import Derived.Test.YtdokejnokhicbaaGreatDoorMb
import Derived.Test.YtdokejnokhicbaaGreatDoorMc
import Derived.Test.YtdokejnokhicbaaGreatDoorMd
namespace Go.Proofs.YtdokejnokhicbaaGreatDoor
open Go Go.Ab
set_option linter.unusedSimpArgs false
set_option linter.unusedVariables false
theorem mir_get (l : List Int) (p : Nat) (h : p < 28) : (mirC l)[p]? = ((mI ((28 + l.length : Nat) : Int))[p]?).map Ins.enc := by
  unfold mirC mcode
  rw [List.getElem?_append_left (by simp [mI]; omega), List.getElem?_map]
theorem dec_N (n : Nat) (h : n ≤ 88) : decR (Ins.enc ⟨1, 4, 0, n⟩) = [iv 1, iv 4, iv 0, iv n] ∧ okR (Ins.enc ⟨1, 4, 0, n⟩) = true := by
  have e : insW (Ins.enc ⟨1, 4, 0, n⟩) = ⟨1, 4, 0, n⟩ := by
    unfold insW Ins.enc
    simp only [Ins.mk.injEq]
    omega
  have r : rightI ⟨1, 4, 0, n⟩ = true := by
    have h1 : partsOf 1 = ⟨#[97, 99]⟩ := by decide
    have h2 : hasB ⟨#[97, 99]⟩ 97 = true ∧ hasB ⟨#[97, 99]⟩ 98 = false ∧ hasB ⟨#[97, 99]⟩ 99 = true ∧ hasB ⟨#[97, 99]⟩ 114 = false := by decide
    unfold rightI
    simp only [h1, h2, wi, if_true, Bool.false_eq_true, if_false, Bool.or_false, Bool.and_eq_true, decide_eq_true_eq]
    refine ⟨⟨⟨by decide, by omega⟩, by simp⟩, by omega⟩
  unfold decR okR
  rw [e, r]
  exact ⟨rfl, rfl⟩
theorem dec_0 : decR (Ins.enc ⟨1, 1, 0, 83⟩) = [iv 1, iv 1, iv 0, iv 83] ∧ okR (Ins.enc ⟨1, 1, 0, 83⟩) = true := ⟨by kernel_rfl, by kernel_rfl⟩
theorem dec_1 : decR (Ins.enc ⟨24, 1, 0, 0⟩) = [iv 24, iv 1, iv 0, iv 0] ∧ okR (Ins.enc ⟨24, 1, 0, 0⟩) = true := ⟨by kernel_rfl, by kernel_rfl⟩
theorem dec_2 : decR (Ins.enc ⟨1, 1, 0, 69⟩) = [iv 1, iv 1, iv 0, iv 69] ∧ okR (Ins.enc ⟨1, 1, 0, 69⟩) = true := ⟨by kernel_rfl, by kernel_rfl⟩
theorem dec_3 : decR (Ins.enc ⟨1, 1, 0, 68⟩) = [iv 1, iv 1, iv 0, iv 68] ∧ okR (Ins.enc ⟨1, 1, 0, 68⟩) = true := ⟨by kernel_rfl, by kernel_rfl⟩
theorem dec_4 : decR (Ins.enc ⟨1, 8, 0, 8⟩) = [iv 1, iv 8, iv 0, iv 8] ∧ okR (Ins.enc ⟨1, 8, 0, 8⟩) = true := ⟨by kernel_rfl, by kernel_rfl⟩
theorem dec_5 : decR (Ins.enc ⟨1, 7, 0, 1⟩) = [iv 1, iv 7, iv 0, iv 1] ∧ okR (Ins.enc ⟨1, 7, 0, 1⟩) = true := ⟨by kernel_rfl, by kernel_rfl⟩
theorem dec_6 : decR (Ins.enc ⟨3, 2, 4, 0⟩) = [iv 3, iv 2, iv 4, iv 0] ∧ okR (Ins.enc ⟨3, 2, 4, 0⟩) = true := ⟨by kernel_rfl, by kernel_rfl⟩
theorem dec_7 : decR (Ins.enc ⟨21, 15, 0, 19⟩) = [iv 21, iv 15, iv 0, iv 19] ∧ okR (Ins.enc ⟨21, 15, 0, 19⟩) = true := ⟨by kernel_rfl, by kernel_rfl⟩
theorem dec_8 : decR (Ins.enc ⟨27, 2, 3, 0⟩) = [iv 27, iv 2, iv 3, iv 0] ∧ okR (Ins.enc ⟨27, 2, 3, 0⟩) = true := ⟨by kernel_rfl, by kernel_rfl⟩
theorem dec_9 : decR (Ins.enc ⟨4, 3, 3, 7⟩) = [iv 4, iv 3, iv 3, iv 7] ∧ okR (Ins.enc ⟨4, 3, 3, 7⟩) = true := ⟨by kernel_rfl, by kernel_rfl⟩
theorem dec_10 : decR (Ins.enc ⟨14, 5, 3, 4⟩) = [iv 14, iv 5, iv 3, iv 4] ∧ okR (Ins.enc ⟨14, 5, 3, 4⟩) = true := ⟨by kernel_rfl, by kernel_rfl⟩
theorem dec_11 : decR (Ins.enc ⟨20, 5, 0, 13⟩) = [iv 20, iv 5, iv 0, iv 13] ∧ okR (Ins.enc ⟨20, 5, 0, 13⟩) = true := ⟨by kernel_rfl, by kernel_rfl⟩
theorem dec_12 : decR (Ins.enc ⟨26, 0, 0, 0⟩) = [iv 26, iv 0, iv 0, iv 0] ∧ okR (Ins.enc ⟨26, 0, 0, 0⟩) = true := ⟨by kernel_rfl, by kernel_rfl⟩
theorem dec_13 : decR (Ins.enc ⟨24, 2, 0, 0⟩) = [iv 24, iv 2, iv 0, iv 0] ∧ okR (Ins.enc ⟨24, 2, 0, 0⟩) = true := ⟨by kernel_rfl, by kernel_rfl⟩
theorem dec_14 : decR (Ins.enc ⟨13, 2, 2, 8⟩) = [iv 13, iv 2, iv 2, iv 8] ∧ okR (Ins.enc ⟨13, 2, 2, 8⟩) = true := ⟨by kernel_rfl, by kernel_rfl⟩
theorem dec_15 : decR (Ins.enc ⟨22, 15, 0, 0⟩) = [iv 22, iv 15, iv 0, iv 0] ∧ okR (Ins.enc ⟨22, 15, 0, 0⟩) = true := ⟨by kernel_rfl, by kernel_rfl⟩
theorem at_0 (l : List Int) : (rowD (mirC l))[0]? = some [iv 1, iv 1, iv 0, iv 83] ∧ (rowK (mirC l))[0]? = some [bv true] := by
  have h := mir_get l 0 (by omega)
  rw [List.getElem?_map, List.getElem?_map, h]
  have d := dec_0
  exact ⟨congrArg some d.1, congrArg (fun b => some [bv b]) d.2⟩
theorem at_1 (l : List Int) : (rowD (mirC l))[1]? = some [iv 24, iv 1, iv 0, iv 0] ∧ (rowK (mirC l))[1]? = some [bv true] := by
  have h := mir_get l 1 (by omega)
  rw [List.getElem?_map, List.getElem?_map, h]
  have d := dec_1
  exact ⟨congrArg some d.1, congrArg (fun b => some [bv b]) d.2⟩
theorem at_2 (l : List Int) : (rowD (mirC l))[2]? = some [iv 1, iv 1, iv 0, iv 69] ∧ (rowK (mirC l))[2]? = some [bv true] := by
  have h := mir_get l 2 (by omega)
  rw [List.getElem?_map, List.getElem?_map, h]
  have d := dec_2
  exact ⟨congrArg some d.1, congrArg (fun b => some [bv b]) d.2⟩
theorem at_3 (l : List Int) : (rowD (mirC l))[3]? = some [iv 24, iv 1, iv 0, iv 0] ∧ (rowK (mirC l))[3]? = some [bv true] := by
  have h := mir_get l 3 (by omega)
  rw [List.getElem?_map, List.getElem?_map, h]
  have d := dec_1
  exact ⟨congrArg some d.1, congrArg (fun b => some [bv b]) d.2⟩
theorem at_4 (l : List Int) : (rowD (mirC l))[4]? = some [iv 24, iv 1, iv 0, iv 0] ∧ (rowK (mirC l))[4]? = some [bv true] := by
  have h := mir_get l 4 (by omega)
  rw [List.getElem?_map, List.getElem?_map, h]
  have d := dec_1
  exact ⟨congrArg some d.1, congrArg (fun b => some [bv b]) d.2⟩
theorem at_5 (l : List Int) : (rowD (mirC l))[5]? = some [iv 1, iv 1, iv 0, iv 68] ∧ (rowK (mirC l))[5]? = some [bv true] := by
  have h := mir_get l 5 (by omega)
  rw [List.getElem?_map, List.getElem?_map, h]
  have d := dec_3
  exact ⟨congrArg some d.1, congrArg (fun b => some [bv b]) d.2⟩
theorem at_6 (l : List Int) : (rowD (mirC l))[6]? = some [iv 24, iv 1, iv 0, iv 0] ∧ (rowK (mirC l))[6]? = some [bv true] := by
  have h := mir_get l 6 (by omega)
  rw [List.getElem?_map, List.getElem?_map, h]
  have d := dec_1
  exact ⟨congrArg some d.1, congrArg (fun b => some [bv b]) d.2⟩
theorem at_7 (l : List Int) : (rowD (mirC l))[7]? = some [iv 1, iv 8, iv 0, iv 8] ∧ (rowK (mirC l))[7]? = some [bv true] := by
  have h := mir_get l 7 (by omega)
  rw [List.getElem?_map, List.getElem?_map, h]
  have d := dec_4
  exact ⟨congrArg some d.1, congrArg (fun b => some [bv b]) d.2⟩
theorem at_8 (l : List Int) : (rowD (mirC l))[8]? = some [iv 1, iv 7, iv 0, iv 1] ∧ (rowK (mirC l))[8]? = some [bv true] := by
  have h := mir_get l 8 (by omega)
  rw [List.getElem?_map, List.getElem?_map, h]
  have d := dec_5
  exact ⟨congrArg some d.1, congrArg (fun b => some [bv b]) d.2⟩
theorem at_9 (l : List Int) (hl : l.length ≤ 60) : (rowD (mirC l))[9]? = some [iv 1, iv 4, iv 0, iv ((28 + l.length : Nat) : Int)] ∧ (rowK (mirC l))[9]? = some [bv true] := by
  have h := mir_get l 9 (by omega)
  rw [List.getElem?_map, List.getElem?_map, h]
  have d := dec_N (28 + l.length) (by omega)
  exact ⟨congrArg some d.1, congrArg (fun b => some [bv b]) d.2⟩
theorem at_10 (l : List Int) : (rowD (mirC l))[10]? = some [iv 3, iv 2, iv 4, iv 0] ∧ (rowK (mirC l))[10]? = some [bv true] := by
  have h := mir_get l 10 (by omega)
  rw [List.getElem?_map, List.getElem?_map, h]
  have d := dec_6
  exact ⟨congrArg some d.1, congrArg (fun b => some [bv b]) d.2⟩
theorem at_11 (l : List Int) : (rowD (mirC l))[11]? = some [iv 21, iv 15, iv 0, iv 19] ∧ (rowK (mirC l))[11]? = some [bv true] := by
  have h := mir_get l 11 (by omega)
  rw [List.getElem?_map, List.getElem?_map, h]
  have d := dec_7
  exact ⟨congrArg some d.1, congrArg (fun b => some [bv b]) d.2⟩
theorem at_12 (l : List Int) : (rowD (mirC l))[12]? = some [iv 21, iv 15, iv 0, iv 19] ∧ (rowK (mirC l))[12]? = some [bv true] := by
  have h := mir_get l 12 (by omega)
  rw [List.getElem?_map, List.getElem?_map, h]
  have d := dec_7
  exact ⟨congrArg some d.1, congrArg (fun b => some [bv b]) d.2⟩
theorem at_13 (l : List Int) : (rowD (mirC l))[13]? = some [iv 27, iv 2, iv 3, iv 0] ∧ (rowK (mirC l))[13]? = some [bv true] := by
  have h := mir_get l 13 (by omega)
  rw [List.getElem?_map, List.getElem?_map, h]
  have d := dec_8
  exact ⟨congrArg some d.1, congrArg (fun b => some [bv b]) d.2⟩
theorem at_14 (l : List Int) : (rowD (mirC l))[14]? = some [iv 21, iv 15, iv 0, iv 19] ∧ (rowK (mirC l))[14]? = some [bv true] := by
  have h := mir_get l 14 (by omega)
  rw [List.getElem?_map, List.getElem?_map, h]
  have d := dec_7
  exact ⟨congrArg some d.1, congrArg (fun b => some [bv b]) d.2⟩
theorem at_15 (l : List Int) : (rowD (mirC l))[15]? = some [iv 4, iv 3, iv 3, iv 7] ∧ (rowK (mirC l))[15]? = some [bv true] := by
  have h := mir_get l 15 (by omega)
  rw [List.getElem?_map, List.getElem?_map, h]
  have d := dec_9
  exact ⟨congrArg some d.1, congrArg (fun b => some [bv b]) d.2⟩
theorem at_16 (l : List Int) : (rowD (mirC l))[16]? = some [iv 14, iv 5, iv 3, iv 4] ∧ (rowK (mirC l))[16]? = some [bv true] := by
  have h := mir_get l 16 (by omega)
  rw [List.getElem?_map, List.getElem?_map, h]
  have d := dec_10
  exact ⟨congrArg some d.1, congrArg (fun b => some [bv b]) d.2⟩
theorem at_17 (l : List Int) : (rowD (mirC l))[17]? = some [iv 20, iv 5, iv 0, iv 13] ∧ (rowK (mirC l))[17]? = some [bv true] := by
  have h := mir_get l 17 (by omega)
  rw [List.getElem?_map, List.getElem?_map, h]
  have d := dec_11
  exact ⟨congrArg some d.1, congrArg (fun b => some [bv b]) d.2⟩
theorem at_18 (l : List Int) : (rowD (mirC l))[18]? = some [iv 26, iv 0, iv 0, iv 0] ∧ (rowK (mirC l))[18]? = some [bv true] := by
  have h := mir_get l 18 (by omega)
  rw [List.getElem?_map, List.getElem?_map, h]
  have d := dec_12
  exact ⟨congrArg some d.1, congrArg (fun b => some [bv b]) d.2⟩
theorem at_19 (l : List Int) : (rowD (mirC l))[19]? = some [iv 24, iv 2, iv 0, iv 0] ∧ (rowK (mirC l))[19]? = some [bv true] := by
  have h := mir_get l 19 (by omega)
  rw [List.getElem?_map, List.getElem?_map, h]
  have d := dec_13
  exact ⟨congrArg some d.1, congrArg (fun b => some [bv b]) d.2⟩
theorem at_20 (l : List Int) : (rowD (mirC l))[20]? = some [iv 13, iv 2, iv 2, iv 8] ∧ (rowK (mirC l))[20]? = some [bv true] := by
  have h := mir_get l 20 (by omega)
  rw [List.getElem?_map, List.getElem?_map, h]
  have d := dec_14
  exact ⟨congrArg some d.1, congrArg (fun b => some [bv b]) d.2⟩
theorem at_21 (l : List Int) : (rowD (mirC l))[21]? = some [iv 24, iv 2, iv 0, iv 0] ∧ (rowK (mirC l))[21]? = some [bv true] := by
  have h := mir_get l 21 (by omega)
  rw [List.getElem?_map, List.getElem?_map, h]
  have d := dec_13
  exact ⟨congrArg some d.1, congrArg (fun b => some [bv b]) d.2⟩
theorem at_22 (l : List Int) : (rowD (mirC l))[22]? = some [iv 13, iv 2, iv 2, iv 8] ∧ (rowK (mirC l))[22]? = some [bv true] := by
  have h := mir_get l 22 (by omega)
  rw [List.getElem?_map, List.getElem?_map, h]
  have d := dec_14
  exact ⟨congrArg some d.1, congrArg (fun b => some [bv b]) d.2⟩
theorem at_23 (l : List Int) : (rowD (mirC l))[23]? = some [iv 24, iv 2, iv 0, iv 0] ∧ (rowK (mirC l))[23]? = some [bv true] := by
  have h := mir_get l 23 (by omega)
  rw [List.getElem?_map, List.getElem?_map, h]
  have d := dec_13
  exact ⟨congrArg some d.1, congrArg (fun b => some [bv b]) d.2⟩
theorem at_24 (l : List Int) : (rowD (mirC l))[24]? = some [iv 13, iv 2, iv 2, iv 8] ∧ (rowK (mirC l))[24]? = some [bv true] := by
  have h := mir_get l 24 (by omega)
  rw [List.getElem?_map, List.getElem?_map, h]
  have d := dec_14
  exact ⟨congrArg some d.1, congrArg (fun b => some [bv b]) d.2⟩
theorem at_25 (l : List Int) : (rowD (mirC l))[25]? = some [iv 24, iv 2, iv 0, iv 0] ∧ (rowK (mirC l))[25]? = some [bv true] := by
  have h := mir_get l 25 (by omega)
  rw [List.getElem?_map, List.getElem?_map, h]
  have d := dec_13
  exact ⟨congrArg some d.1, congrArg (fun b => some [bv b]) d.2⟩
theorem at_26 (l : List Int) : (rowD (mirC l))[26]? = some [iv 13, iv 2, iv 2, iv 8] ∧ (rowK (mirC l))[26]? = some [bv true] := by
  have h := mir_get l 26 (by omega)
  rw [List.getElem?_map, List.getElem?_map, h]
  have d := dec_14
  exact ⟨congrArg some d.1, congrArg (fun b => some [bv b]) d.2⟩
theorem at_27 (l : List Int) : (rowD (mirC l))[27]? = some [iv 22, iv 15, iv 0, iv 0] ∧ (rowK (mirC l))[27]? = some [bv true] := by
  have h := mir_get l 27 (by omega)
  rw [List.getElem?_map, List.getElem?_map, h]
  have d := dec_15
  exact ⟨congrArg some d.1, congrArg (fun b => some [bv b]) d.2⟩
theorem h39 (l : List Int) (hl : l.length ≤ 60) (s : MS) (hs : Ok l s) (g : Nat) (inp : ByteArray) (cs : List Int) (d : Nat) (hp1 : Hp)
    (hx : hp1 ⟨0, 13, 0⟩ = .box 1 (bxc s g (mirC l).length (mirC l) inp) false) (ho : hp1 ⟨0, 13, 23⟩ = .arr g 1 5 (rowB s.out) false) (hc : hp1 ⟨0, 13, 24⟩ = .arr 2 4 83 (rowD (mirC l)) false)
    (hk : hp1 ⟨0, 13, 25⟩ = .arr 2 1 4 (rowK (mirC l)) false) (hn : hp1 ⟨0, 13, 28⟩ = .arr 2 1 3 (rowI cs) false) (hnl : cs.length = (mirC l).length) :
    ∃ hp' g' cs', (lim Tryz.prog E47 X47).hpc 0 d 89 [.ptr ⟨0, 13, 0⟩ 1 0] hp1 = some (.tup [], hp') ∧ Post (nx l s) g' (mirC l).length (mirC l) inp cs' hp1 hp' := by
  obtain ⟨o1, o2, o3, o4, o5, o6, o7, o8, o9, o10, o11, o12⟩ := hs
  have hlen := mirC_len l
  have hcl : (rowD (mirC l)).length = (mirC l).length := by simp
  have hkl : (rowK (mirC l)).length = (mirC l).length := by simp
  obtain ⟨pc, R, st, en, out⟩ := s
  simp only at o1 o2 o3 o4 o5 o6 o7 o8 o9 o10 o11 o12 ho
  subst o1
  have hp : pc = 0 ∨ pc = 1 ∨ pc = 2 ∨ pc = 3 ∨ pc = 4 ∨ pc = 5 ∨ pc = 6 ∨ pc = 7 ∨ pc = 8 ∨ pc = 9 ∨ pc = 10 ∨ pc = 11 ∨ pc = 12 ∨ pc = 13 ∨ pc = 14 ∨ pc = 15 ∨ pc = 16 ∨ pc = 17 ∨ pc = 18 ∨ pc = 19 ∨ pc = 20 ∨ pc = 21 ∨ pc = 22 ∨ pc = 23 ∨ pc = 24 ∨ pc = 25 ∨ pc = 26 ∨ pc = 27 := by omega
  rcases hp with rfl | rfl | rfl | rfl | rfl | rfl | rfl | rfl | rfl | rfl | rfl | rfl | rfl | rfl | rfl | rfl | rfl | rfl | rfl | rfl | rfl | rfl | rfl | rfl | rfl | rfl | rfl | rfl
  · have h := h39_li1 ⟨0, R, st, 0, out⟩ g _ _ inp _ _ cs 83 (by omega) d hp1 hx ho hc hcl (at_0 l).1 hk hkl (at_0 l).2 hn hnl (by simp only; omega) (by omega) o3
    exact h
  · have h := h39_put1 ⟨1, R, st, 0, out⟩ g _ _ inp _ _ cs o4 o5 d hp1 hx ho hc hcl (at_1 l).1 hk hkl (at_1 l).2 hn hnl (by simp only; omega) (by omega) o3
    exact h
  · have h := h39_li1 ⟨2, R, st, 0, out⟩ g _ _ inp _ _ cs 69 (by omega) d hp1 hx ho hc hcl (at_2 l).1 hk hkl (at_2 l).2 hn hnl (by simp only; omega) (by omega) o3
    exact h
  · have h := h39_put1 ⟨3, R, st, 0, out⟩ g _ _ inp _ _ cs o4 o5 d hp1 hx ho hc hcl (at_3 l).1 hk hkl (at_3 l).2 hn hnl (by simp only; omega) (by omega) o3
    exact h
  · have h := h39_put1 ⟨4, R, st, 0, out⟩ g _ _ inp _ _ cs o4 o5 d hp1 hx ho hc hcl (at_4 l).1 hk hkl (at_4 l).2 hn hnl (by simp only; omega) (by omega) o3
    exact h
  · have h := h39_li1 ⟨5, R, st, 0, out⟩ g _ _ inp _ _ cs 68 (by omega) d hp1 hx ho hc hcl (at_5 l).1 hk hkl (at_5 l).2 hn hnl (by simp only; omega) (by omega) o3
    exact h
  · have h := h39_put1 ⟨6, R, st, 0, out⟩ g _ _ inp _ _ cs o4 o5 d hp1 hx ho hc hcl (at_6 l).1 hk hkl (at_6 l).2 hn hnl (by simp only; omega) (by omega) o3
    exact h
  · have h := h39_li8 ⟨7, R, st, 0, out⟩ g _ _ inp _ _ cs 8 (by omega) d hp1 hx ho hc hcl (at_7 l).1 hk hkl (at_7 l).2 hn hnl (by simp only; omega) (by omega) o3
    exact h
  · have h := h39_li7 ⟨8, R, st, 0, out⟩ g _ _ inp _ _ cs 1 (by omega) d hp1 hx ho hc hcl (at_8 l).1 hk hkl (at_8 l).2 hn hnl (by simp only; omega) (by omega) o3
    exact h
  · have h := h39_li4 ⟨9, R, st, 0, out⟩ g _ _ inp _ _ cs (28 + l.length) (by omega) d hp1 hx ho hc hcl (at_9 l hl).1 hk hkl (at_9 l hl).2 hn hnl (by simp only; omega) (by omega) o3
    exact h
  · have h := h39_mov ⟨10, R, st, 0, out⟩ g _ _ inp _ _ cs d hp1 hx ho hc hcl (at_10 l).1 hk hkl (at_10 l).2 hn hnl (by simp only; omega) (by omega) o3
    exact h
  · have h := h39_call ⟨11, R, st, 0, out⟩ g _ _ inp _ _ cs d hp1 hx ho hc hcl (at_11 l).1 hk hkl (at_11 l).2 hn hnl (by simp only; omega) (by omega) o3
    exact h
  · have h := h39_call ⟨12, R, st, 0, out⟩ g _ _ inp _ _ cs d hp1 hx ho hc hcl (at_12 l).1 hk hkl (at_12 l).2 hn hnl (by simp only; omega) (by omega) o3
    exact h
  · obtain ⟨j, hj, hjl⟩ := o10 rfl
    have h := h39_ldc ⟨13, R, st, 0, out⟩ g _ _ inp _ _ cs j hj hjl (by omega) d hp1 hx ho hc hcl (at_13 l).1 hk hkl (at_13 l).2 hn hnl (by simp only; omega) (by omega) o3
    have e : nx l ⟨13, R, st, 0, out⟩ = sR ⟨13, R, st, 0, out⟩ 2 (mirC l)[j] := by
      show sR _ 2 ((mirC l).getD (R 3).toNat 0) = _
      rw [hj, Int.toNat_natCast, List.getD_eq_getElem?_getD, List.getElem?_eq_getElem hjl]; rfl
    rw [e]
    exact h
  · have h := h39_call ⟨14, R, st, 0, out⟩ g _ _ inp _ _ cs d hp1 hx ho hc hcl (at_14 l).1 hk hkl (at_14 l).2 hn hnl (by simp only; omega) (by omega) o3
    exact h
  · have h := h39_add ⟨15, R, st, 0, out⟩ g _ _ inp _ _ cs o7 o9 d hp1 hx ho hc hcl (at_15 l).1 hk hkl (at_15 l).2 hn hnl (by simp only; omega) (by omega) o3
    exact h
  · have h := h39_lt ⟨16, R, st, 0, out⟩ g _ _ inp _ _ cs o7 o8 d hp1 hx ho hc hcl (at_16 l).1 hk hkl (at_16 l).2 hn hnl (by simp only; omega) (by omega) o3
    exact h
  · have h := h39_jnz ⟨17, R, st, 0, out⟩ g _ _ inp _ _ cs d hp1 hx ho hc hcl (at_17 l).1 hk hkl (at_17 l).2 hn hnl (by simp only; omega) (by omega) o3
    exact h
  · have h := h39_halt ⟨18, R, st, 0, out⟩ g _ _ inp _ _ cs d hp1 hx ho hc hcl (at_18 l).1 hk hkl (at_18 l).2 hn hnl (by simp only; omega) (by omega) o3
    exact h
  · have h := h39_put2 ⟨19, R, st, 0, out⟩ g _ _ inp _ _ cs o4 o6.1 d hp1 hx ho hc hcl (at_19 l).1 hk hkl (at_19 l).2 hn hnl (by simp only; omega) (by omega) o3
    exact h
  · have h := h39_shr ⟨20, R, st, 0, out⟩ g _ _ inp _ _ cs o6 (o11 (by omega)) d hp1 hx ho hc hcl (at_20 l).1 hk hkl (at_20 l).2 hn hnl (by simp only; omega) (by omega) o3
    exact h
  · have h := h39_put2 ⟨21, R, st, 0, out⟩ g _ _ inp _ _ cs o4 o6.1 d hp1 hx ho hc hcl (at_21 l).1 hk hkl (at_21 l).2 hn hnl (by simp only; omega) (by omega) o3
    exact h
  · have h := h39_shr ⟨22, R, st, 0, out⟩ g _ _ inp _ _ cs o6 (o11 (by omega)) d hp1 hx ho hc hcl (at_22 l).1 hk hkl (at_22 l).2 hn hnl (by simp only; omega) (by omega) o3
    exact h
  · have h := h39_put2 ⟨23, R, st, 0, out⟩ g _ _ inp _ _ cs o4 o6.1 d hp1 hx ho hc hcl (at_23 l).1 hk hkl (at_23 l).2 hn hnl (by simp only; omega) (by omega) o3
    exact h
  · have h := h39_shr ⟨24, R, st, 0, out⟩ g _ _ inp _ _ cs o6 (o11 (by omega)) d hp1 hx ho hc hcl (at_24 l).1 hk hkl (at_24 l).2 hn hnl (by simp only; omega) (by omega) o3
    exact h
  · have h := h39_put2 ⟨25, R, st, 0, out⟩ g _ _ inp _ _ cs o4 o6.1 d hp1 hx ho hc hcl (at_25 l).1 hk hkl (at_25 l).2 hn hnl (by simp only; omega) (by omega) o3
    exact h
  · have h := h39_shr ⟨26, R, st, 0, out⟩ g _ _ inp _ _ cs o6 (o11 (by omega)) d hp1 hx ho hc hcl (at_26 l).1 hk hkl (at_26 l).2 hn hnl (by simp only; omega) (by omega) o3
    exact h
  · obtain ⟨q, hq, hq1⟩ := o12 rfl
    have h := h39_ret ⟨27, R, st, 0, out⟩ g _ _ inp _ _ cs q hq hq1 d hp1 hx ho hc hcl (at_27 l).1 hk hkl (at_27 l).2 hn hnl (by simp only; omega) (by omega) o3
    have e : nx l ⟨27, R, st, 0, out⟩ = ⟨q, R, st + 1, 0, out⟩ := by
      show (⟨(R 15).toNat, R, st + 1, 0, out⟩ : MS) = _
      rw [hq, Int.toNat_natCast]
    rw [e]
    exact h
end Go.Proofs.YtdokejnokhicbaaGreatDoor
