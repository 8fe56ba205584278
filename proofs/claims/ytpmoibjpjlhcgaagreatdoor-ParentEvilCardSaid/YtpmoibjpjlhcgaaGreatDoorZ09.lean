/- A part of the proof: F9. -/
import Derived.KernelRfl
import Derived.Test.YtpmoibjpjlhcgaaGreatDoorProg
import Derived.Test.YtpmoibjpjlhcgaaGreatDoorZ08
set_option linter.unusedSimpArgs false
set_option linter.unusedVariables false
namespace Go.Proofs.YtpmoibjpjlhcgaaGreatDoor
open Go Go.Ab
@[simp] theorem okFn_3 :okFn Tryz.prog 3=true:=by kernel_rfl
@[simp] theorem rtys_3 :rtys Tryz.prog 3=[4]:=by kernel_rfl
@[simp] theorem bodyOk_3 :bodyOk Tryz.f3=true:=by kernel_rfl
@[simp] theorem rtys_7 :rtys Tryz.prog 7=[25]:=by kernel_rfl
@[simp] theorem bodyOk_7 :bodyOk Tryz.f7=true:=by kernel_rfl
@[simp] theorem rtys_12 :rtys Tryz.prog 12=[25]:=by kernel_rfl
@[simp] theorem bodyOk_12 :bodyOk Tryz.f12=true:=by kernel_rfl
@[simp] theorem rtys_17 :rtys Tryz.prog 17=[41,30]:=by kernel_rfl
@[simp] theorem bodyOk_17 :bodyOk Tryz.f17=true:=by kernel_rfl
@[simp] theorem rtys_18 :rtys Tryz.prog 18=[45]:=by kernel_rfl
@[simp] theorem bodyOk_18 :bodyOk Tryz.f18=true:=by kernel_rfl
@[simp] theorem rtys_31 :rtys Tryz.prog 31=[45]:=by kernel_rfl
@[simp] theorem bodyOk_31 :bodyOk Tryz.f31=true:=by kernel_rfl
@[simp] theorem rtys_32 :rtys Tryz.prog 32=[24]:=by kernel_rfl
@[simp] theorem bodyOk_32 :bodyOk Tryz.f32=true:=by kernel_rfl
@[simp] theorem jF9_0 :okFn Tryz.prog 6=true∧ptys Tryz.prog 6=[]∧rtys Tryz.prog 6=[4]∧flatF Tryz.prog 6=true∧okFn Tryz.prog 7=true∧ptys Tryz.prog 7=[9]∧flatF Tryz.prog 7=true∧okFn Tryz.prog 12=true∧ptys Tryz.prog 12=[9]∧flatF Tryz.prog 12=true∧okFn Tryz.prog 17=true∧ptys Tryz.prog 17=[9]∧flatF Tryz.prog 17=false∧okFn Tryz.prog 18=true∧ptys Tryz.prog 18=[45,25]∧flatF Tryz.prog 18=true∧okFn Tryz.prog 31=true∧ptys Tryz.prog 31=[45,24]∧flatF Tryz.prog 31=true∧okFn Tryz.prog 32=true∧ptys Tryz.prog 32=[9,3]∧flatF Tryz.prog 32=true∧okFn Tryz.prog 34=true∧ptys Tryz.prog 34=[45]:=by repeat' (first|(with_reducible apply And.intro)|kernel_rfl)
@[simp] theorem rtys_34 :rtys Tryz.prog 34=[25]:=by kernel_rfl
@[simp] theorem bodyOk_34 :bodyOk Tryz.f34=true:=by kernel_rfl
@[simp] theorem rtys_41 :rtys Tryz.prog 41=[45]:=by kernel_rfl
@[simp] theorem bodyOk_41 :bodyOk Tryz.f41=true:=by kernel_rfl
@[simp] theorem rtys_59 :rtys Tryz.prog 59=[45]:=by kernel_rfl
@[simp] theorem bodyOk_59 :bodyOk Tryz.f59=true:=by kernel_rfl
@[simp] theorem rtys_65 :rtys Tryz.prog 65=[23]:=by kernel_rfl
@[simp] theorem bodyOk_65 :bodyOk Tryz.f65=true:=by kernel_rfl
@[simp] theorem rtys_131 :rtys Tryz.prog 131=[23]:=by kernel_rfl
@[simp] theorem bodyOk_131 :bodyOk Tryz.f131=true:=by kernel_rfl
@[simp] theorem jF9_1 :flatF Tryz.prog 34=true∧okFn Tryz.prog 41=true∧ptys Tryz.prog 41=[45]∧flatF Tryz.prog 41=true∧okFn Tryz.prog 59=true∧ptys Tryz.prog 59=[45]∧flatF Tryz.prog 59=true∧okFn Tryz.prog 64=true∧ptys Tryz.prog 64=[]∧rtys Tryz.prog 64=[120]∧flatF Tryz.prog 64=true∧okFn Tryz.prog 65=true∧ptys Tryz.prog 65=[23,3]∧flatF Tryz.prog 65=true∧okFn Tryz.prog 131=true∧ptys Tryz.prog 131=[23,3]∧flatF Tryz.prog 131=true∧Tryz.prog.cellsOf 45=8∧isAggB Tryz.prog 45=true∧arrOf Tryz.prog 45=some (8,23)∧bldOk Tryz.prog 45=true∧tcs Tryz.prog 45=[23,23,23,23,23,23,23,23]∧zeros Tryz.prog 45=some [Value.int IntKind.u32 0,Value.int IntKind.u32 0,Value.int IntKind.u32 0,Value.int IntKind.u32 0,Value.int IntKind.u32 0,Value.int IntKind.u32 0,Value.int IntKind.u32 0,Value.int IntKind.u32 0]∧(Tryz.prog.info? 45).isSome=true:=by repeat' (first|(with_reducible apply And.intro)|kernel_rfl)
theorem rvs_3 :Tryz.f3.results.toList=[.tmp 6]:=rfl
@[simp] theorem jF9_2 :Tryz.prog.cellsOf 120=4∧isAggB Tryz.prog 120=true∧arrOf Tryz.prog 120=some (4,3)∧tcs Tryz.prog 120=[3,3,3,3]∧zeros Tryz.prog 120=some [Value.int IntKind.i64 0,Value.int IntKind.i64 0,Value.int IntKind.i64 0,Value.int IntKind.i64 0]∧(Tryz.prog.info? 120).isSome=true:=by repeat' (first|(with_reducible apply And.intro)|kernel_rfl)
@[simp] theorem jF9_3 :E47.hp 17=false∧E47.hp 18=false∧E47.hp 31=false∧E47.hp 32=false∧E47.hp 34=false∧E47.hp 41=false∧E47.hp 59=false∧E47.hp 64=false∧E47.hp 65=false∧E47.hp 131=false:=⟨rfl,rfl,rfl,rfl,rfl,rfl,rfl,rfl,rfl,rfl⟩
end Go.Proofs.YtpmoibjpjlhcgaaGreatDoor
