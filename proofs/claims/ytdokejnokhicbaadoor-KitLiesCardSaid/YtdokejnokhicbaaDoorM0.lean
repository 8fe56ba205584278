/- Law 47: more facts of the program. -/
import Derived.Test.YtdokejnokhicbaaDoorM2
namespace Go.Proofs.YtdokejnokhicbaaDoor
open Go Go.Ab
set_option linter.unusedSimpArgs false
set_option linter.unusedVariables false

@[simp] theorem okFn_45 : okFn Tryd.prog 45 = true := by kernel_rfl
@[simp] theorem ptys_45 : ptys Tryd.prog 45 = [102, 34] := by kernel_rfl
@[simp] theorem rtys_45 : rtys Tryd.prog 45 = [102] := by kernel_rfl
@[simp] theorem flatF_45 : flatF Tryd.prog 45 = true := by kernel_rfl
@[simp] theorem bodyOk_45 : bodyOk Tryd.f45 = true := by kernel_rfl
@[simp] theorem okFn_60 : okFn Tryd.prog 60 = true := by kernel_rfl
@[simp] theorem ptys_60 : ptys Tryd.prog 60 = [102] := by kernel_rfl
@[simp] theorem rtys_60 : rtys Tryd.prog 60 = [102] := by kernel_rfl
@[simp] theorem flatF_60 : flatF Tryd.prog 60 = true := by kernel_rfl
@[simp] theorem bodyOk_60 : bodyOk Tryd.f60 = true := by kernel_rfl
@[simp] theorem okFn_75 : okFn Tryd.prog 75 = true := by kernel_rfl
@[simp] theorem ptys_75 : ptys Tryd.prog 75 = [] := by kernel_rfl
@[simp] theorem rtys_75 : rtys Tryd.prog 75 = [142] := by kernel_rfl
@[simp] theorem flatF_75 : flatF Tryd.prog 75 = true := by kernel_rfl
@[simp] theorem bodyOk_75 : bodyOk Tryd.f75 = true := by kernel_rfl
@[simp] theorem okFn_76 : okFn Tryd.prog 76 = true := by kernel_rfl
@[simp] theorem ptys_76 : ptys Tryd.prog 76 = [32, 3] := by kernel_rfl
@[simp] theorem rtys_76 : rtys Tryd.prog 76 = [32] := by kernel_rfl
@[simp] theorem flatF_76 : flatF Tryd.prog 76 = true := by kernel_rfl
@[simp] theorem bodyOk_76 : bodyOk Tryd.f76 = true := by kernel_rfl
end Go.Proofs.YtdokejnokhicbaaDoor
