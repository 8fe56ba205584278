/- Law 31: fits, sameness. Printed by a program (wip/t31.py). -/
import Derived.Test.YtmfhdhiaokejdaaG31b
import Derived.Test.YtmfhdhiaokejdaaG31c
import Derived.Test.YtmfhdhiaokejdaaG31d
namespace Go.Proofs.Ytmfhdhiaokejdaa
open Go Go.Ab
set_option linter.unusedSimpArgs false
set_option linter.unusedVariables false
@[simp] theorem d25 (op d a b k base size n number regs words : Int) (hw : 0 ≤ words) (hw2 : words ≤ 1048576) : (lim Try.prog E31 X31).dat 25 [.agg [iv op, iv d, iv a, iv b, iv k, iv base, iv size, .sc (.int .u32 n)], iv number, iv regs, iv words] = some [bv (fitsB op d a b k base size n number regs words)] := by
  by_cases ho : op < 1 ∨ 10 < op
  · exact fits0 op d a b k base size n number regs words ho
  · have : op = 1 ∨ op = 2 ∨ op = 3 ∨ op = 4 ∨ op = 5 ∨ op = 6 ∨ op = 7 ∨ op = 8 ∨ op = 9 ∨ op = 10 := by omega
    rcases this with h | h | h | h | h | h | h | h | h | h <;> subst h
    · exact fits1 d a b k base size n number regs words
    · exact fits2 d a b k base size n number regs words
    · exact fits3 d a b k base size n number regs words
    · exact fits4 d a b k base size n number regs words
    · exact fits5 d a b k base size n number regs words
    · exact fits6 d a b k base size n number regs words hw hw2
    · exact fits7 d a b k base size n number regs words hw hw2
    · exact fits8 d a b k base size n number regs words
    · exact fits9 d a b k base size n number regs words
    · exact fits10 d a b k base size n number regs words
end Go.Proofs.Ytmfhdhiaokejdaa
