/- Law 31: the document's first example, run. -/
import Derived.Test.YtmfhdhiaokejdaaEq
namespace Go.Proofs.Ytmfhdhiaokejdaa
open Go Go.Ab
set_option linter.unusedSimpArgs false
set_option linter.unusedVariables false
theorem awake_run : (evCall Try.prog E31 X31 60).dat 12 [] = some [bv true] := by kernel_rfl
@[simp] theorem d12 : (lim Try.prog E31 X31).dat 12 [] = some [bv true] := lim_dat.2 ⟨60, awake_run⟩
end Go.Proofs.Ytmfhdhiaokejdaa
