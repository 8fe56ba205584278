/- A part of the proof: F9. -/
import Derived.KernelRfl
import Derived.Test.YtpmoibjpjlhcgaaGreatDoorProg
import Derived.Test.YtpmoibjpjlhcgaaGreatDoorY08
set_option linter.unusedSimpArgs false
set_option linter.unusedVariables false
namespace Go.Proofs.YtpmoibjpjlhcgaaGreatDoor
open Go Go.Ab
@[simp] theorem rtys_12 :rtys Tryz.prog 12=[25]:=by kernel_rfl
@[simp] theorem Dta :Ad Tryz.f12=true:=by kernel_rfl
@[simp] theorem rtys_31 :rtys Tryz.prog 31=[45]:=by kernel_rfl
@[simp] theorem Dma :Ad Tryz.f31=true:=by kernel_rfl
@[simp] theorem rtys_32 :rtys Tryz.prog 32=[24]:=by kernel_rfl
@[simp] theorem Dla :Ad Tryz.f32=true:=by kernel_rfl
@[simp] theorem rtys_34 :rtys Tryz.prog 34=[25]:=by kernel_rfl
@[simp] theorem Dka :Ad Tryz.f34=true:=by kernel_rfl
@[simp] theorem rtys_59 :rtys Tryz.prog 59=[45]:=by kernel_rfl
@[simp] theorem Daa :Ad Tryz.f59=true:=by kernel_rfl
@[simp] theorem H9 :rtys Tryz.prog 131=[23]:=by kernel_rfl
@[simp] theorem Fi :Ad Tryz.f131=true:=by kernel_rfl
@[simp] theorem jF9_0 :okFn Tryz.prog 12=true/\ptys Tryz.prog 12=[9]/\Aj Tryz.prog 12=true/\okFn Tryz.prog 31=true/\ptys Tryz.prog 31=[45,24]/\Aj Tryz.prog 31=true/\okFn Tryz.prog 32=true/\ptys Tryz.prog 32=[9,3]/\Aj Tryz.prog 32=true/\okFn Tryz.prog 34=true/\ptys Tryz.prog 34=[45]/\Aj Tryz.prog 34=true/\okFn Tryz.prog 59=true/\ptys Tryz.prog 59=[45]/\Aj Tryz.prog 59=true/\okFn Tryz.prog 131=true/\ptys Tryz.prog 131=[23,3]/\Aj Tryz.prog 131=true/\Tryz.prog.cellsOf 45=8/\isAggB Tryz.prog 45=true/\At Tryz.prog 45=some (8,23)/\A9 Tryz.prog 45=true/\tcs Tryz.prog 45=[23,23,23,23,23,23,23,23]/\zeros Tryz.prog 45=some [Value.int IntKind.u32 0,Value.int IntKind.u32 0,Value.int IntKind.u32 0,Value.int IntKind.u32 0,Value.int IntKind.u32 0,Value.int IntKind.u32 0,Value.int IntKind.u32 0,Value.int IntKind.u32 0]:=by repeat' (first|(with_reducible apply And.intro)|kernel_rfl)
@[simp] theorem jF9_1 :(Tryz.prog.info? 45).isSome=true/\At Tryz.prog 120=some (4,3):=by repeat' (first|(with_reducible apply And.intro)|kernel_rfl)
@[simp] theorem jF9_2 :E47.hp 31=false/\E47.hp 32=false/\E47.hp 34=false/\E47.hp 59=false/\E47.hp 131=false:=⟨rfl,rfl,rfl,rfl,rfl⟩
end Go.Proofs.YtpmoibjpjlhcgaaGreatDoor
