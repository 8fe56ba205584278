/- A part of the proof: Tn. -/
import Derived.Test.YtaeeffddinppeaaGreatDoorC23
import Derived.Test.YtaeeffddinppeaaGreatDoorC28
set_option linter.unusedSimpArgs false
set_option linter.unusedVariables false
namespace Go.Proofs.YtaeeffddinppeaaGreatDoor
open Go Go.Ab
attribute [-simp] Prog.bind getCs putCs
attribute [local simp ↓] run_bind
attribute [local simp ↓] runF_bind
attribute [local simp] run_getCsN runF_getCsN facetsC putCs_one run_putCsN runF_putCsN facetsW facetsH
abbrev rowN (l : List Int) : List (List AV) := l.map fun x => [iv x]
structure Par where
  kind : Int
  ps : List Int
  img : ByteArray
  fuel : Int
  mark : D4
  give : ByteArray
def Par.row (p : Par) : List AV := [iv p.kind, .sl false 1 (rowN p.ps), .sc (.string p.img), iv p.fuel, uv p.mark.d0, uv p.mark.d1, uv p.mark.d2, uv p.mark.d3, .sc (.string p.give)]
end Go.Proofs.YtaeeffddinppeaaGreatDoor
