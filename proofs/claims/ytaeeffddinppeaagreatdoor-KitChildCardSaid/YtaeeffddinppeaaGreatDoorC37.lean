/- A part of the proof: Vp. -/
import Derived.Test.YtaeeffddinppeaaGreatDoorC31
import Derived.Test.YtaeeffddinppeaaGreatDoorC34
import Derived.Test.YtaeeffddinppeaaGreatDoorC36
set_option linter.unusedSimpArgs false
set_option linter.unusedVariables false
namespace Go.Proofs.YtaeeffddinppeaaGreatDoor
open Go Go.Ab
attribute [-simp] Prog.bind getCs putCs
attribute [local simp ↓] run_bind
attribute [local simp ↓] runF_bind
attribute [local simp] run_getCsN runF_getCsN facetsC putCs_one run_putCsN runF_putCsN facetsW facetsH
set_option maxHeartbeats 8000000 in
theorem g3 (l : List Int) (src : ByteArray) (hU : ∀ x ∈ l, U x) : (lim Tryz.prog E47 X47).dat 3 [.sl false 1 (rowW l), .sc (.string src)] = some [bv true] := by
  refine fnW Tryz.func3 rfl rfl bodyOk_3 rfl rtys_3 rfl ?_
  have h13 := d7
  by_cases hl : (30 : Int) < l.length
  · skip
    exact step0
  by_cases hs : (300 : Int) < src.size
  · skip
    exact step0
  have h14 := d8 l (by omega) hU
  have hlen := mirC_len l
  obtain ⟨i1, i2, i3⟩ := img_txtI (mirC l) 0 (by omega) (by omega) (mirC_U l (by omega) hU)
  have h15 := d9 (txtI (mirC l) 0) (by rw [txtI_size]; omega)
  unfold readR at h15
  rw [if_pos i1, i2, i3] at h15
  obtain ⟨fuel, hfu⟩ : ∃ fuel : Int, fuel = 100 * ((mirC l).length : Int) + 1000 := ⟨_, rfl⟩
  have hsd := mir_said l (by omega) hU src fuel (by omega)
  have h16 := g16i ⟨3, [], txtI (mirC l) 0, fuel, ⟨0, 0, 0, 0⟩, ⟨#[]⟩⟩ src rfl (by simp only; rw [txtI_size]; omega) (by omega) (by simp only; omega)
  have h17 := g17i ⟨3, [], txtI (mirC l) 0, fuel, ⟨0, 0, 0, 0⟩, ⟨#[]⟩⟩ src rfl
  unfold resE at h16
  simp only at h16
  rw [hsd] at h16
  simp only [Par.row, List.map_nil] at h16 h17
  have w1 : IntKind.i64.wrap (100 * ((mirC l).length : Int)) = 100 * ((mirC l).length : Int) := wrap64 (by omega) (by omega)
  have w2 : IntKind.i64.wrap (100 * ((mirC l).length : Int) + 1000) = fuel := by rw [wrap64 (by omega) (by omega)]; omega
  clear i1 i2 i3 hsd hfu hlen hU
  generalize txtI (mirC l) 0 = T at *
  exact step0
end Go.Proofs.YtaeeffddinppeaaGreatDoor
