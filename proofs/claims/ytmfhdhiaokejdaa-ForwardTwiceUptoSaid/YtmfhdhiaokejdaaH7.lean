/- Law 31, ForwardTwice: the statement. -/
import Derived.Test.YtmfhdhiaokejdaaC31
import Derived.Test.YtmfhdhiaokejdaaG31j
namespace Go.Proofs.Ytmfhdhiaokejdaa
open Go Go.Ab
set_option linter.unusedSimpArgs false
set_option linter.unusedVariables false
theorem fn_fits {f : Fn} (h : f.wf 1048576) : f.fits := by
  refine ⟨by have := h.blocks.1; unfold big; omega, fun b hb => ⟨by have := (h.blocks.2 b hb).ins.1; unfold big; omega⟩⟩
theorem twice_holds : Rows.ForwardTwiceUptoSaid := said7 L31_ok fun f hf => d7 f (fn_fits hf)
end Go.Proofs.Ytmfhdhiaokejdaa
