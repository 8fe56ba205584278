/- A part of the proof: Ps. -/
import Derived.Test.YtaeeffddinppeaaGreatDoorC16
set_option linter.unusedSimpArgs false
set_option linter.unusedVariables false
namespace Go.Ma
theorem run_stop {code : List Int} {inp : Inp} : ∀ (n : Nat) (s : PS), s.en ≠ 0 → runP code inp n s = s
  | 0, _, _ => rfl
  | n + 1, s, h => by unfold runP; rw [if_neg h]
theorem run_next {code : List Int} {inp : Inp} {n : Nat} {s : PS} (h : s.en = 0) : runP code inp (n + 1) s = runP code inp n (stepP code inp s) := by
  rw [runP, if_pos h]
end Go.Ma
