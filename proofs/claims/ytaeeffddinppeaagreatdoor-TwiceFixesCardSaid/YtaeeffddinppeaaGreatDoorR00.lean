/- A part of the proof: Gl. -/
import Derived.WalkKit
set_option linter.unusedSimpArgs false
set_option linter.unusedVariables false
namespace Go.Ab
open Go
def globT : Nat → Option (List Value)
  | 0 => some [.int .i64 7, .int .i64 9, .int .i64 13, .int .i64 18]
  | 1 => some [.int .u64 1, .int .u64 10, .int .u64 100, .int .u64 1000, .int .u64 10000, .int .u64 100000, .int .u64 1000000, .int .u64 10000000, .int .u64 100000000, .int .u64 1000000000, .int .u64 10000000000, .int .u64 100000000000, .int .u64 1000000000000, .int .u64 10000000000000, .int .u64 100000000000000, .int .u64 1000000000000000, .int .u64 10000000000000000, .int .u64 100000000000000000, .int .u64 1000000000000000000, .int .u64 10000000000000000000]
  | _ => none
theorem globT_one {g : Nat} {vs : List Value} (h : globT g = some vs) : ∀ v ∈ vs, v.oneCell' = true := by
  unfold globT at h
  split at h
  · cases h; simp [Value.oneCell']
  · cases h; simp [Value.oneCell']
  · cases h
end Go.Ab
