/- A part of the proof: Gl. -/
import Derived.WalkKit
set_option linter.unusedSimpArgs false
set_option linter.unusedVariables false
namespace Go.Ab
open Go
def globT :Nat->Option (List Value)
 |0=>some [.int .i64 7,.int .i64 9,.int .i64 13,.int .i64 18]
 |1=>some [.string ⟨#[60,60]⟩,.string ⟨#[62,62]⟩,.string ⟨#[61,61]⟩,.string ⟨#[38,38]⟩,.string ⟨#[124,124]⟩,.string ⟨#[40]⟩,.string ⟨#[41]⟩,.string ⟨#[123]⟩,.string ⟨#[125]⟩,.string ⟨#[91]⟩,.string ⟨#[93]⟩,.string ⟨#[59]⟩,.string ⟨#[44]⟩,.string ⟨#[61]⟩,.string ⟨#[43]⟩,.string ⟨#[45]⟩,.string ⟨#[42]⟩,.string ⟨#[47]⟩,.string ⟨#[37]⟩,.string ⟨#[38]⟩,.string ⟨#[124]⟩,.string ⟨#[94]⟩,.string ⟨#[60]⟩,.string ⟨#[33]⟩]
 |2=>some [.string ⟨#[118,97,114]⟩,.string ⟨#[97,114,114,97,121]⟩,.string ⟨#[102,117,110,99]⟩,.string ⟨#[119,111,114,100]⟩,.string ⟨#[105,102]⟩,.string ⟨#[101,108,115,101]⟩,.string ⟨#[119,104,105,108,101]⟩,.string ⟨#[114,101,116,117,114,110]⟩,.string ⟨#[112,117,116]⟩,.string ⟨#[103,101,116]⟩]
 |_=>none
theorem Bva {g:Nat}{vs:List Value}(h:globT g=some vs): ∀v∈vs,v.oneCell'=true:=by
 unfold globT at h
 split at h
 ·cases h;simp[Value.oneCell']
 ·cases h;simp[Value.oneCell']
 ·cases h;simp[Value.oneCell']
 ·cases h
end Go.Ab
