/- A part of the proof: F11. -/
import Derived.Test.YtpmoibjpjlhcgaaGreatDoorY19
import Derived.Test.YtpmoibjpjlhcgaaGreatDoorY07
set_option linter.unusedSimpArgs false
set_option linter.unusedVariables false
namespace Go.Proofs.YtpmoibjpjlhcgaaGreatDoor
open Go Go.Ab
theorem rvs_4 :Tryz.f4.results.toList=[.tmp 6]:=rfl
theorem rvs_11 :Tryz.f11.results.toList=[.cell 4 29]:=rfl
end Go.Proofs.YtpmoibjpjlhcgaaGreatDoor
