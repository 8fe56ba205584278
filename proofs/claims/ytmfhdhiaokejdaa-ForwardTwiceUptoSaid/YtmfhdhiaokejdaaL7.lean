/- Law 31, ForwardTwice: at every function of at most 1048576 values and letters the call answers true and leaves its argument as it was. -/
import Derived.Test.YtmfhdhiaokejdaaK9
import Derived.Test.YtmfhdhiaokejdaaKA
import Derived.Test.YtmfhdhiaokejdaaK8
namespace Go.Proofs.Ytmfhdhiaokejdaa
open Go Go.Ab
set_option linter.unusedSimpArgs false
set_option linter.unusedVariables false
theorem twice_holds : Rows.ForwardTwiceUptoSaid := said7 L31_ok fun f hf => d7 f (fn_fits hf)
end Go.Proofs.Ytmfhdhiaokejdaa
