/- A part of the proof: Vp0. -/
import Derived.Test.YtaeeffddinppeaaGreatDoorR29
set_option linter.unusedSimpArgs false
set_option linter.unusedVariables false
namespace Go.Proofs.YtaeeffddinppeaaGreatDoor
open Go Go.Ab
attribute [-simp] Prog.bind getCs putCs
attribute [local simp ↓] run_bind
attribute [local simp ↓] runF_bind
attribute [local simp] run_getCsN runF_getCsN facetsC putCs_one run_putCsN runF_putCsN facetsW facetsH
set_option maxHeartbeats 4000000 in
theorem g16i (q : Par) (src : ByteArray) (hk : q.kind = 3) (hm : q.img.size ≤ 1048576) (hs : src.size ≤ 1048576) (hf : q.fuel ≤ 4611686018427387903) : (lim Tryz.prog E47 X47).dat 16 [.agg q.row, .sc (.string src)] = some (resE q.img src q.fuel) := by
  refine fnW Tryz.func16 rfl rfl bodyOk_16 rfl rtys_16 rfl ?_
  have h42 := g42 q.img src q.fuel hm hs hf
  obtain ⟨kind, ps, img, fuel, ⟨d0, d1, d2, d3⟩, give⟩ := q
  simp only at hk h42
  subst hk
  clear hm hs hf
  simp only [Par.row] at h42 ⊢
  generalize rowN ps = PR at *
  unfold resE at h42 ⊢
  generalize goodI img src fuel = r at *
  cases r
  all_goals simp only at h42 ⊢
  all_goals exact step0
end Go.Proofs.YtaeeffddinppeaaGreatDoor
