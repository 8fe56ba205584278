/- Facts of the program. -/
import Derived.KernelRfl
import Derived.Test.YtaeeffddinppeaaGreatDoorProg
import Derived.Test.YtaeeffddinppeaaGreatDoorQ2
set_option linter.unusedSimpArgs false
set_option linter.unusedVariables false
namespace Go.Proofs.YtaeeffddinppeaaGreatDoor
open Go Go.Ab
@[simp] theorem okFn_5 : okFn Tryz.prog 5 = true := by kernel_rfl
@[simp] theorem ptys_5 : ptys Tryz.prog 5 = [9, 9] := by kernel_rfl
@[simp] theorem rtys_5 : rtys Tryz.prog 5 = [4] := by kernel_rfl
@[simp] theorem flatF_5 : flatF Tryz.prog 5 = true := by kernel_rfl
@[simp] theorem bodyOk_5 : bodyOk Tryz.f5 = true := by kernel_rfl
@[simp] theorem okFn_16 : okFn Tryz.prog 16 = true := by kernel_rfl
@[simp] theorem ptys_16 : ptys Tryz.prog 16 = [36, 9] := by kernel_rfl
@[simp] theorem rtys_16 : rtys Tryz.prog 16 = [9, 24] := by kernel_rfl
@[simp] theorem flatF_16 : flatF Tryz.prog 16 = true := by kernel_rfl
@[simp] theorem bodyOk_16 : bodyOk Tryz.f16 = true := by kernel_rfl
@[simp] theorem okFn_19 : okFn Tryz.prog 19 = true := by kernel_rfl
@[simp] theorem ptys_19 : ptys Tryz.prog 19 = [9] := by kernel_rfl
@[simp] theorem rtys_19 : rtys Tryz.prog 19 = [34] := by kernel_rfl
@[simp] theorem flatF_19 : flatF Tryz.prog 19 = true := by kernel_rfl
@[simp] theorem bodyOk_19 : bodyOk Tryz.f19 = true := by kernel_rfl
@[simp] theorem okFn_20 : okFn Tryz.prog 20 = true := by kernel_rfl
@[simp] theorem ptys_20 : ptys Tryz.prog 20 = [] := by kernel_rfl
@[simp] theorem rtys_20 : rtys Tryz.prog 20 = [4] := by kernel_rfl
@[simp] theorem flatF_20 : flatF Tryz.prog 20 = true := by kernel_rfl
@[simp] theorem bodyOk_20 : bodyOk Tryz.f20 = true := by kernel_rfl
@[simp] theorem okFn_21 : okFn Tryz.prog 21 = true := by kernel_rfl
@[simp] theorem ptys_21 : ptys Tryz.prog 21 = [9, 9] := by kernel_rfl
@[simp] theorem rtys_21 : rtys Tryz.prog 21 = [36] := by kernel_rfl
@[simp] theorem flatF_21 : flatF Tryz.prog 21 = false := by kernel_rfl
@[simp] theorem bodyOk_21 : bodyOk Tryz.f21 = true := by kernel_rfl
@[simp] theorem okFn_22 : okFn Tryz.prog 22 = true := by kernel_rfl
@[simp] theorem ptys_22 : ptys Tryz.prog 22 = [9, 9, 36, 36, 3] := by kernel_rfl
@[simp] theorem rtys_22 : rtys Tryz.prog 22 = [44] := by kernel_rfl
@[simp] theorem flatF_22 : flatF Tryz.prog 22 = true := by kernel_rfl
@[simp] theorem bodyOk_22 : bodyOk Tryz.f22 = true := by kernel_rfl
@[simp] theorem okFn_24 : okFn Tryz.prog 24 = true := by kernel_rfl
@[simp] theorem ptys_24 : ptys Tryz.prog 24 = [9, 9, 36, 3] := by kernel_rfl
@[simp] theorem rtys_24 : rtys Tryz.prog 24 = [24, 3] := by kernel_rfl
@[simp] theorem flatF_24 : flatF Tryz.prog 24 = true := by kernel_rfl
@[simp] theorem bodyOk_24 : bodyOk Tryz.f24 = true := by kernel_rfl
@[simp] theorem okFn_28 : okFn Tryz.prog 28 = true := by kernel_rfl
@[simp] theorem ptys_28 : ptys Tryz.prog 28 = [44] := by kernel_rfl
@[simp] theorem rtys_28 : rtys Tryz.prog 28 = [9] := by kernel_rfl
@[simp] theorem flatF_28 : flatF Tryz.prog 28 = true := by kernel_rfl
@[simp] theorem bodyOk_28 : bodyOk Tryz.f28 = true := by kernel_rfl
@[simp] theorem okFn_30 : okFn Tryz.prog 30 = true := by kernel_rfl
@[simp] theorem ptys_30 : ptys Tryz.prog 30 = [9] := by kernel_rfl
@[simp] theorem rtys_30 : rtys Tryz.prog 30 = [34] := by kernel_rfl
@[simp] theorem flatF_30 : flatF Tryz.prog 30 = true := by kernel_rfl
@[simp] theorem bodyOk_30 : bodyOk Tryz.f30 = true := by kernel_rfl
@[simp] theorem okFn_38 : okFn Tryz.prog 38 = true := by kernel_rfl
@[simp] theorem ptys_38 : ptys Tryz.prog 38 = [28] := by kernel_rfl
@[simp] theorem rtys_38 : rtys Tryz.prog 38 = [9, 24] := by kernel_rfl
@[simp] theorem flatF_38 : flatF Tryz.prog 38 = true := by kernel_rfl
@[simp] theorem bodyOk_38 : bodyOk Tryz.f38 = true := by kernel_rfl
@[simp] theorem okFn_39 : okFn Tryz.prog 39 = true := by kernel_rfl
@[simp] theorem ptys_39 : ptys Tryz.prog 39 = [9, 3] := by kernel_rfl
@[simp] theorem rtys_39 : rtys Tryz.prog 39 = [32] := by kernel_rfl
@[simp] theorem flatF_39 : flatF Tryz.prog 39 = true := by kernel_rfl
@[simp] theorem bodyOk_39 : bodyOk Tryz.f39 = true := by kernel_rfl
@[simp] theorem okFn_40 : okFn Tryz.prog 40 = true := by kernel_rfl
@[simp] theorem ptys_40 : ptys Tryz.prog 40 = [9] := by kernel_rfl
@[simp] theorem rtys_40 : rtys Tryz.prog 40 = [9, 24] := by kernel_rfl
@[simp] theorem flatF_40 : flatF Tryz.prog 40 = true := by kernel_rfl
@[simp] theorem bodyOk_40 : bodyOk Tryz.f40 = true := by kernel_rfl
@[simp] theorem okFn_41 : okFn Tryz.prog 41 = true := by kernel_rfl
@[simp] theorem ptys_41 : ptys Tryz.prog 41 = [9, 31] := by kernel_rfl
@[simp] theorem rtys_41 : rtys Tryz.prog 41 = [9, 3, 24] := by kernel_rfl
@[simp] theorem flatF_41 : flatF Tryz.prog 41 = true := by kernel_rfl
@[simp] theorem bodyOk_41 : bodyOk Tryz.f41 = true := by kernel_rfl
@[simp] theorem okFn_42 : okFn Tryz.prog 42 = true := by kernel_rfl
@[simp] theorem ptys_42 : ptys Tryz.prog 42 = [9, 9, 3] := by kernel_rfl
@[simp] theorem rtys_42 : rtys Tryz.prog 42 = [9, 24] := by kernel_rfl
@[simp] theorem flatF_42 : flatF Tryz.prog 42 = true := by kernel_rfl
@[simp] theorem bodyOk_42 : bodyOk Tryz.f42 = true := by kernel_rfl
@[simp] theorem okFn_44 : okFn Tryz.prog 44 = true := by kernel_rfl
@[simp] theorem ptys_44 : ptys Tryz.prog 44 = [89, 33] := by kernel_rfl
@[simp] theorem rtys_44 : rtys Tryz.prog 44 = [89] := by kernel_rfl
@[simp] theorem flatF_44 : flatF Tryz.prog 44 = true := by kernel_rfl
@[simp] theorem bodyOk_44 : bodyOk Tryz.f44 = true := by kernel_rfl
@[simp] theorem okFn_45 : okFn Tryz.prog 45 = true := by kernel_rfl
@[simp] theorem ptys_45 : ptys Tryz.prog 45 = [9, 3] := by kernel_rfl
@[simp] theorem rtys_45 : rtys Tryz.prog 45 = [33] := by kernel_rfl
@[simp] theorem flatF_45 : flatF Tryz.prog 45 = true := by kernel_rfl
@[simp] theorem bodyOk_45 : bodyOk Tryz.f45 = true := by kernel_rfl
@[simp] theorem okFn_46 : okFn Tryz.prog 46 = true := by kernel_rfl
@[simp] theorem ptys_46 : ptys Tryz.prog 46 = [22] := by kernel_rfl
@[simp] theorem rtys_46 : rtys Tryz.prog 46 = [9] := by kernel_rfl
@[simp] theorem flatF_46 : flatF Tryz.prog 46 = true := by kernel_rfl
@[simp] theorem bodyOk_46 : bodyOk Tryz.f46 = true := by kernel_rfl
@[simp] theorem okFn_47 : okFn Tryz.prog 47 = true := by kernel_rfl
@[simp] theorem ptys_47 : ptys Tryz.prog 47 = [89] := by kernel_rfl
@[simp] theorem rtys_47 : rtys Tryz.prog 47 = [34] := by kernel_rfl
@[simp] theorem flatF_47 : flatF Tryz.prog 47 = true := by kernel_rfl
@[simp] theorem bodyOk_47 : bodyOk Tryz.f47 = true := by kernel_rfl
@[simp] theorem okFn_48 : okFn Tryz.prog 48 = true := by kernel_rfl
@[simp] theorem ptys_48 : ptys Tryz.prog 48 = [9] := by kernel_rfl
@[simp] theorem rtys_48 : rtys Tryz.prog 48 = [9] := by kernel_rfl
@[simp] theorem flatF_48 : flatF Tryz.prog 48 = true := by kernel_rfl
@[simp] theorem bodyOk_48 : bodyOk Tryz.f48 = true := by kernel_rfl
@[simp] theorem okFn_49 : okFn Tryz.prog 49 = true := by kernel_rfl
@[simp] theorem ptys_49 : ptys Tryz.prog 49 = [9, 36, 3] := by kernel_rfl
@[simp] theorem rtys_49 : rtys Tryz.prog 49 = [9, 4] := by kernel_rfl
@[simp] theorem flatF_49 : flatF Tryz.prog 49 = true := by kernel_rfl
@[simp] theorem bodyOk_49 : bodyOk Tryz.f49 = true := by kernel_rfl
@[simp] theorem okFn_50 : okFn Tryz.prog 50 = true := by kernel_rfl
@[simp] theorem ptys_50 : ptys Tryz.prog 50 = [9, 9] := by kernel_rfl
@[simp] theorem rtys_50 : rtys Tryz.prog 50 = [3] := by kernel_rfl
@[simp] theorem flatF_50 : flatF Tryz.prog 50 = true := by kernel_rfl
@[simp] theorem bodyOk_50 : bodyOk Tryz.f50 = true := by kernel_rfl
@[simp] theorem okFn_52 : okFn Tryz.prog 52 = true := by kernel_rfl
@[simp] theorem ptys_52 : ptys Tryz.prog 52 = [9, 9, 3] := by kernel_rfl
@[simp] theorem rtys_52 : rtys Tryz.prog 52 = [9, 4] := by kernel_rfl
@[simp] theorem flatF_52 : flatF Tryz.prog 52 = true := by kernel_rfl
@[simp] theorem bodyOk_52 : bodyOk Tryz.f52 = true := by kernel_rfl
@[simp] theorem okFn_55 : okFn Tryz.prog 55 = true := by kernel_rfl
@[simp] theorem ptys_55 : ptys Tryz.prog 55 = [9] := by kernel_rfl
@[simp] theorem rtys_55 : rtys Tryz.prog 55 = [22, 24] := by kernel_rfl
@[simp] theorem flatF_55 : flatF Tryz.prog 55 = false := by kernel_rfl
@[simp] theorem bodyOk_55 : bodyOk Tryz.f55 = true := by kernel_rfl
@[simp] theorem okFn_56 : okFn Tryz.prog 56 = true := by kernel_rfl
@[simp] theorem ptys_56 : ptys Tryz.prog 56 = [89, 34] := by kernel_rfl
@[simp] theorem rtys_56 : rtys Tryz.prog 56 = [89] := by kernel_rfl
@[simp] theorem flatF_56 : flatF Tryz.prog 56 = true := by kernel_rfl
@[simp] theorem bodyOk_56 : bodyOk Tryz.f56 = true := by kernel_rfl
@[simp] theorem okFn_63 : okFn Tryz.prog 63 = true := by kernel_rfl
@[simp] theorem ptys_63 : ptys Tryz.prog 63 = [9] := by kernel_rfl
@[simp] theorem rtys_63 : rtys Tryz.prog 63 = [28, 24] := by kernel_rfl
@[simp] theorem flatF_63 : flatF Tryz.prog 63 = false := by kernel_rfl
@[simp] theorem bodyOk_63 : bodyOk Tryz.f63 = true := by kernel_rfl
@[simp] theorem okFn_65 : okFn Tryz.prog 65 = true := by kernel_rfl
@[simp] theorem ptys_65 : ptys Tryz.prog 65 = [28] := by kernel_rfl
@[simp] theorem rtys_65 : rtys Tryz.prog 65 = [4] := by kernel_rfl
@[simp] theorem flatF_65 : flatF Tryz.prog 65 = true := by kernel_rfl
@[simp] theorem bodyOk_65 : bodyOk Tryz.f65 = true := by kernel_rfl
@[simp] theorem okFn_70 : okFn Tryz.prog 70 = true := by kernel_rfl
@[simp] theorem ptys_70 : ptys Tryz.prog 70 = [9, 9, 3] := by kernel_rfl
@[simp] theorem rtys_70 : rtys Tryz.prog 70 = [53, 24] := by kernel_rfl
@[simp] theorem flatF_70 : flatF Tryz.prog 70 = true := by kernel_rfl
@[simp] theorem bodyOk_70 : bodyOk Tryz.f70 = true := by kernel_rfl
@[simp] theorem okFn_71 : okFn Tryz.prog 71 = true := by kernel_rfl
@[simp] theorem ptys_71 : ptys Tryz.prog 71 = [89] := by kernel_rfl
@[simp] theorem rtys_71 : rtys Tryz.prog 71 = [89] := by kernel_rfl
@[simp] theorem flatF_71 : flatF Tryz.prog 71 = true := by kernel_rfl
@[simp] theorem bodyOk_71 : bodyOk Tryz.f71 = true := by kernel_rfl
@[simp] theorem okFn_72 : okFn Tryz.prog 72 = true := by kernel_rfl
@[simp] theorem ptys_72 : ptys Tryz.prog 72 = [119] := by kernel_rfl
@[simp] theorem rtys_72 : rtys Tryz.prog 72 = [32, 24] := by kernel_rfl
@[simp] theorem flatF_72 : flatF Tryz.prog 72 = true := by kernel_rfl
@[simp] theorem bodyOk_72 : bodyOk Tryz.f72 = true := by kernel_rfl
@[simp] theorem okFn_73 : okFn Tryz.prog 73 = true := by kernel_rfl
@[simp] theorem ptys_73 : ptys Tryz.prog 73 = [28] := by kernel_rfl
@[simp] theorem rtys_73 : rtys Tryz.prog 73 = [9, 24] := by kernel_rfl
@[simp] theorem flatF_73 : flatF Tryz.prog 73 = true := by kernel_rfl
@[simp] theorem bodyOk_73 : bodyOk Tryz.f73 = true := by kernel_rfl
@[simp] theorem okFn_77 : okFn Tryz.prog 77 = true := by kernel_rfl
@[simp] theorem ptys_77 : ptys Tryz.prog 77 = [89] := by kernel_rfl
@[simp] theorem rtys_77 : rtys Tryz.prog 77 = [89] := by kernel_rfl
@[simp] theorem flatF_77 : flatF Tryz.prog 77 = true := by kernel_rfl
@[simp] theorem bodyOk_77 : bodyOk Tryz.f77 = true := by kernel_rfl
@[simp] theorem okFn_91 : okFn Tryz.prog 91 = true := by kernel_rfl
@[simp] theorem ptys_91 : ptys Tryz.prog 91 = [34, 34] := by kernel_rfl
@[simp] theorem rtys_91 : rtys Tryz.prog 91 = [34] := by kernel_rfl
@[simp] theorem flatF_91 : flatF Tryz.prog 91 = true := by kernel_rfl
@[simp] theorem bodyOk_91 : bodyOk Tryz.f91 = true := by kernel_rfl
@[simp] theorem okFn_97 : okFn Tryz.prog 97 = true := by kernel_rfl
@[simp] theorem ptys_97 : ptys Tryz.prog 97 = [119] := by kernel_rfl
@[simp] theorem rtys_97 : rtys Tryz.prog 97 = [32, 24] := by kernel_rfl
@[simp] theorem flatF_97 : flatF Tryz.prog 97 = true := by kernel_rfl
@[simp] theorem bodyOk_97 : bodyOk Tryz.f97 = true := by kernel_rfl
@[simp] theorem okFn_98 : okFn Tryz.prog 98 = true := by kernel_rfl
@[simp] theorem ptys_98 : ptys Tryz.prog 98 = [126, 24, 164] := by kernel_rfl
@[simp] theorem rtys_98 : rtys Tryz.prog 98 = [28, 24] := by kernel_rfl
@[simp] theorem flatF_98 : flatF Tryz.prog 98 = false := by kernel_rfl
@[simp] theorem bodyOk_98 : bodyOk Tryz.f98 = true := by kernel_rfl
@[simp] theorem okFn_99 : okFn Tryz.prog 99 = true := by kernel_rfl
@[simp] theorem ptys_99 : ptys Tryz.prog 99 = [126] := by kernel_rfl
@[simp] theorem rtys_99 : rtys Tryz.prog 99 = [28, 24] := by kernel_rfl
@[simp] theorem flatF_99 : flatF Tryz.prog 99 = false := by kernel_rfl
@[simp] theorem bodyOk_99 : bodyOk Tryz.f99 = true := by kernel_rfl
@[simp] theorem okFn_100 : okFn Tryz.prog 100 = true := by kernel_rfl
@[simp] theorem ptys_100 : ptys Tryz.prog 100 = [28, 24, 83] := by kernel_rfl
@[simp] theorem rtys_100 : rtys Tryz.prog 100 = [9, 24] := by kernel_rfl
@[simp] theorem flatF_100 : flatF Tryz.prog 100 = true := by kernel_rfl
@[simp] theorem bodyOk_100 : bodyOk Tryz.f100 = true := by kernel_rfl
@[simp] theorem okFn_101 : okFn Tryz.prog 101 = true := by kernel_rfl
@[simp] theorem ptys_101 : ptys Tryz.prog 101 = [9, 170] := by kernel_rfl
@[simp] theorem rtys_101 : rtys Tryz.prog 101 = [3, 24] := by kernel_rfl
@[simp] theorem flatF_101 : flatF Tryz.prog 101 = true := by kernel_rfl
@[simp] theorem bodyOk_101 : bodyOk Tryz.f101 = true := by kernel_rfl
@[simp] theorem okFn_104 : okFn Tryz.prog 104 = true := by kernel_rfl
@[simp] theorem ptys_104 : ptys Tryz.prog 104 = [126] := by kernel_rfl
@[simp] theorem rtys_104 : rtys Tryz.prog 104 = [4] := by kernel_rfl
@[simp] theorem flatF_104 : flatF Tryz.prog 104 = true := by kernel_rfl
@[simp] theorem bodyOk_104 : bodyOk Tryz.f104 = true := by kernel_rfl
@[simp] theorem okFn_109 : okFn Tryz.prog 109 = true := by kernel_rfl
@[simp] theorem ptys_109 : ptys Tryz.prog 109 = [28, 9, 3] := by kernel_rfl
@[simp] theorem rtys_109 : rtys Tryz.prog 109 = [53] := by kernel_rfl
@[simp] theorem flatF_109 : flatF Tryz.prog 109 = true := by kernel_rfl
@[simp] theorem bodyOk_109 : bodyOk Tryz.f109 = true := by kernel_rfl
@[simp] theorem okFn_110 : okFn Tryz.prog 110 = true := by kernel_rfl
@[simp] theorem ptys_110 : ptys Tryz.prog 110 = [32, 3] := by kernel_rfl
@[simp] theorem rtys_110 : rtys Tryz.prog 110 = [32] := by kernel_rfl
@[simp] theorem flatF_110 : flatF Tryz.prog 110 = true := by kernel_rfl
@[simp] theorem bodyOk_110 : bodyOk Tryz.f110 = true := by kernel_rfl
@[simp] theorem okFn_112 : okFn Tryz.prog 112 = true := by kernel_rfl
@[simp] theorem ptys_112 : ptys Tryz.prog 112 = [28] := by kernel_rfl
@[simp] theorem rtys_112 : rtys Tryz.prog 112 = [4] := by kernel_rfl
@[simp] theorem flatF_112 : flatF Tryz.prog 112 = true := by kernel_rfl
@[simp] theorem bodyOk_112 : bodyOk Tryz.f112 = true := by kernel_rfl
@[simp] theorem okFn_113 : okFn Tryz.prog 113 = true := by kernel_rfl
@[simp] theorem ptys_113 : ptys Tryz.prog 113 = [22] := by kernel_rfl
@[simp] theorem rtys_113 : rtys Tryz.prog 113 = [9] := by kernel_rfl
@[simp] theorem flatF_113 : flatF Tryz.prog 113 = true := by kernel_rfl
@[simp] theorem bodyOk_113 : bodyOk Tryz.f113 = true := by kernel_rfl
@[simp] theorem okFn_116 : okFn Tryz.prog 116 = true := by kernel_rfl
@[simp] theorem ptys_116 : ptys Tryz.prog 116 = [] := by kernel_rfl
@[simp] theorem rtys_116 : rtys Tryz.prog 116 = [182] := by kernel_rfl
@[simp] theorem flatF_116 : flatF Tryz.prog 116 = true := by kernel_rfl
@[simp] theorem bodyOk_116 : bodyOk Tryz.f116 = true := by kernel_rfl
@[simp] theorem okFn_117 : okFn Tryz.prog 117 = true := by kernel_rfl
@[simp] theorem ptys_117 : ptys Tryz.prog 117 = [32, 3] := by kernel_rfl
@[simp] theorem rtys_117 : rtys Tryz.prog 117 = [32] := by kernel_rfl
@[simp] theorem flatF_117 : flatF Tryz.prog 117 = true := by kernel_rfl
@[simp] theorem bodyOk_117 : bodyOk Tryz.f117 = true := by kernel_rfl
@[simp] theorem okFn_157 : okFn Tryz.prog 157 = true := by kernel_rfl
@[simp] theorem ptys_157 : ptys Tryz.prog 157 = [32, 3] := by kernel_rfl
@[simp] theorem rtys_157 : rtys Tryz.prog 157 = [32] := by kernel_rfl
@[simp] theorem flatF_157 : flatF Tryz.prog 157 = true := by kernel_rfl
@[simp] theorem bodyOk_157 : bodyOk Tryz.f157 = true := by kernel_rfl
@[simp] theorem cellsOf_1 : Tryz.prog.cellsOf 1 = 1 := by kernel_rfl
@[simp] theorem bytesOf_1 : Tryz.prog.bytesOf 1 = 8 := by kernel_rfl
@[simp] theorem slel_1 : slel Tryz.prog 1 = none := by kernel_rfl
@[simp] theorem isAggB_1 : isAggB Tryz.prog 1 = false := by kernel_rfl
@[simp] theorem tOk_1 : tOk Tryz.prog 1 = true := by kernel_rfl
@[simp] theorem arrOf_1 : arrOf Tryz.prog 1 = none := by kernel_rfl
@[simp] theorem strB_1 : strB Tryz.prog 1 = false := by kernel_rfl
@[simp] theorem bolB_1 : bolB Tryz.prog 1 = false := by kernel_rfl
@[simp] theorem mapB_1 : mapB Tryz.prog 1 = false := by kernel_rfl
@[simp] theorem intK_1 : intK Tryz.prog 1 = none := by kernel_rfl
@[simp] theorem zrow_1 : zrow Tryz.prog 1 = some [AV.sc Value.nilFunc] := by kernel_rfl
@[simp] theorem bldOk_1 : bldOk Tryz.prog 1 = false := by kernel_rfl
@[simp] theorem tcs_1 : tcs Tryz.prog 1 = [1] := by kernel_rfl
@[simp] theorem srcT_1 : srcT Tryz.prog 1 = false := by kernel_rfl
@[simp] theorem zok_1 : zok Tryz.prog 1 = true := by kernel_rfl
@[simp] theorem flds_1 : flds Tryz.prog 1 = [] := by kernel_rfl
@[simp] theorem zeros_1 : zeros Tryz.prog 1 = some [Value.nilFunc] := by kernel_rfl
@[simp] theorem isinfo_1 : (Tryz.prog.info? 1).isSome = true := by kernel_rfl
@[simp] theorem isund_1 : (Tryz.prog.underlying 1).isSome = true := by kernel_rfl
@[simp] theorem cellsOf_20 : Tryz.prog.cellsOf 20 = 1 := by kernel_rfl
@[simp] theorem bytesOf_20 : Tryz.prog.bytesOf 20 = 16 := by kernel_rfl
@[simp] theorem slel_20 : slel Tryz.prog 20 = none := by kernel_rfl
@[simp] theorem isAggB_20 : isAggB Tryz.prog 20 = false := by kernel_rfl
@[simp] theorem tOk_20 : tOk Tryz.prog 20 = true := by kernel_rfl
@[simp] theorem arrOf_20 : arrOf Tryz.prog 20 = none := by kernel_rfl
@[simp] theorem strB_20 : strB Tryz.prog 20 = false := by kernel_rfl
@[simp] theorem bolB_20 : bolB Tryz.prog 20 = false := by kernel_rfl
@[simp] theorem mapB_20 : mapB Tryz.prog 20 = false := by kernel_rfl
@[simp] theorem intK_20 : intK Tryz.prog 20 = none := by kernel_rfl
@[simp] theorem zrow_20 : zrow Tryz.prog 20 = some [AV.sc Value.nilIface] := by kernel_rfl
@[simp] theorem bldOk_20 : bldOk Tryz.prog 20 = false := by kernel_rfl
@[simp] theorem tcs_20 : tcs Tryz.prog 20 = [20] := by kernel_rfl
@[simp] theorem srcT_20 : srcT Tryz.prog 20 = false := by kernel_rfl
@[simp] theorem zok_20 : zok Tryz.prog 20 = true := by kernel_rfl
@[simp] theorem flds_20 : flds Tryz.prog 20 = [] := by kernel_rfl
@[simp] theorem zeros_20 : zeros Tryz.prog 20 = some [Value.nilIface] := by kernel_rfl
@[simp] theorem isinfo_20 : (Tryz.prog.info? 20).isSome = true := by kernel_rfl
@[simp] theorem isund_20 : (Tryz.prog.underlying 20).isSome = true := by kernel_rfl
@[simp] theorem cellsOf_25 : Tryz.prog.cellsOf 25 = 1 := by kernel_rfl
@[simp] theorem bytesOf_25 : Tryz.prog.bytesOf 25 = 0 := by kernel_rfl
@[simp] theorem slel_25 : slel Tryz.prog 25 = none := by kernel_rfl
@[simp] theorem isAggB_25 : isAggB Tryz.prog 25 = false := by kernel_rfl
@[simp] theorem tOk_25 : tOk Tryz.prog 25 = true := by kernel_rfl
@[simp] theorem arrOf_25 : arrOf Tryz.prog 25 = none := by kernel_rfl
@[simp] theorem strB_25 : strB Tryz.prog 25 = false := by kernel_rfl
@[simp] theorem bolB_25 : bolB Tryz.prog 25 = false := by kernel_rfl
@[simp] theorem mapB_25 : mapB Tryz.prog 25 = false := by kernel_rfl
@[simp] theorem intK_25 : intK Tryz.prog 25 = none := by kernel_rfl
@[simp] theorem zrow_25 : zrow Tryz.prog 25 = none := by kernel_rfl
@[simp] theorem bldOk_25 : bldOk Tryz.prog 25 = false := by kernel_rfl
@[simp] theorem tcs_25 : tcs Tryz.prog 25 = [25] := by kernel_rfl
@[simp] theorem srcT_25 : srcT Tryz.prog 25 = false := by kernel_rfl
@[simp] theorem zok_25 : zok Tryz.prog 25 = true := by kernel_rfl
@[simp] theorem flds_25 : flds Tryz.prog 25 = [] := by kernel_rfl
@[simp] theorem zeros_25 : zeros Tryz.prog 25 = some [Value.tuple { toList := [Value.string { data := { toList := [] } }, Value.int IntKind.i64 0] }] := by kernel_rfl
@[simp] theorem isinfo_25 : (Tryz.prog.info? 25).isSome = true := by kernel_rfl
@[simp] theorem isund_25 : (Tryz.prog.underlying 25).isSome = true := by kernel_rfl
@[simp] theorem cellsOf_29 : Tryz.prog.cellsOf 29 = 1 := by kernel_rfl
@[simp] theorem bytesOf_29 : Tryz.prog.bytesOf 29 = 0 := by kernel_rfl
@[simp] theorem slel_29 : slel Tryz.prog 29 = none := by kernel_rfl
@[simp] theorem isAggB_29 : isAggB Tryz.prog 29 = false := by kernel_rfl
@[simp] theorem tOk_29 : tOk Tryz.prog 29 = true := by kernel_rfl
@[simp] theorem arrOf_29 : arrOf Tryz.prog 29 = none := by kernel_rfl
@[simp] theorem strB_29 : strB Tryz.prog 29 = false := by kernel_rfl
@[simp] theorem bolB_29 : bolB Tryz.prog 29 = false := by kernel_rfl
@[simp] theorem mapB_29 : mapB Tryz.prog 29 = false := by kernel_rfl
@[simp] theorem intK_29 : intK Tryz.prog 29 = none := by kernel_rfl
@[simp] theorem zrow_29 : zrow Tryz.prog 29 = none := by kernel_rfl
@[simp] theorem bldOk_29 : bldOk Tryz.prog 29 = false := by kernel_rfl
@[simp] theorem tcs_29 : tcs Tryz.prog 29 = [29] := by kernel_rfl
@[simp] theorem srcT_29 : srcT Tryz.prog 29 = false := by kernel_rfl
@[simp] theorem zok_29 : zok Tryz.prog 29 = true := by kernel_rfl
@[simp] theorem flds_29 : flds Tryz.prog 29 = [] := by kernel_rfl
@[simp] theorem zeros_29 : zeros Tryz.prog 29 = some [Value.tuple { toList := [Value.agg { toList := [Value.slice none 0 0, Value.int IntKind.i64 0] }, Value.int IntKind.i64 0] }] := by kernel_rfl
@[simp] theorem isinfo_29 : (Tryz.prog.info? 29).isSome = true := by kernel_rfl
@[simp] theorem isund_29 : (Tryz.prog.underlying 29).isSome = true := by kernel_rfl
@[simp] theorem cellsOf_33 : Tryz.prog.cellsOf 33 = 4 := by kernel_rfl
@[simp] theorem bytesOf_33 : Tryz.prog.bytesOf 33 = 16 := by kernel_rfl
@[simp] theorem slel_33 : slel Tryz.prog 33 = none := by kernel_rfl
@[simp] theorem isAggB_33 : isAggB Tryz.prog 33 = true := by kernel_rfl
@[simp] theorem tOk_33 : tOk Tryz.prog 33 = true := by kernel_rfl
@[simp] theorem arrOf_33 : arrOf Tryz.prog 33 = some (4, 32) := by kernel_rfl
@[simp] theorem strB_33 : strB Tryz.prog 33 = false := by kernel_rfl
@[simp] theorem bolB_33 : bolB Tryz.prog 33 = false := by kernel_rfl
@[simp] theorem mapB_33 : mapB Tryz.prog 33 = false := by kernel_rfl
@[simp] theorem intK_33 : intK Tryz.prog 33 = none := by kernel_rfl
@[simp] theorem zrow_33 : zrow Tryz.prog 33 = some [AV.sc (Value.int IntKind.u32 0), AV.sc (Value.int IntKind.u32 0), AV.sc (Value.int IntKind.u32 0), AV.sc (Value.int IntKind.u32 0)] := by kernel_rfl
@[simp] theorem bldOk_33 : bldOk Tryz.prog 33 = true := by kernel_rfl
@[simp] theorem tcs_33 : tcs Tryz.prog 33 = [32, 32, 32, 32] := by kernel_rfl
@[simp] theorem srcT_33 : srcT Tryz.prog 33 = false := by kernel_rfl
@[simp] theorem zok_33 : zok Tryz.prog 33 = true := by kernel_rfl
@[simp] theorem flds_33 : flds Tryz.prog 33 = [] := by kernel_rfl
@[simp] theorem zeros_33 : zeros Tryz.prog 33 = some [Value.int IntKind.u32 0, Value.int IntKind.u32 0, Value.int IntKind.u32 0, Value.int IntKind.u32 0] := by kernel_rfl
@[simp] theorem isinfo_33 : (Tryz.prog.info? 33).isSome = true := by kernel_rfl
@[simp] theorem isund_33 : (Tryz.prog.underlying 33).isSome = true := by kernel_rfl
@[simp] theorem cellsOf_34 : Tryz.prog.cellsOf 34 = 4 := by kernel_rfl
@[simp] theorem bytesOf_34 : Tryz.prog.bytesOf 34 = 16 := by kernel_rfl
@[simp] theorem slel_34 : slel Tryz.prog 34 = none := by kernel_rfl
@[simp] theorem isAggB_34 : isAggB Tryz.prog 34 = true := by kernel_rfl
@[simp] theorem tOk_34 : tOk Tryz.prog 34 = true := by kernel_rfl
@[simp] theorem arrOf_34 : arrOf Tryz.prog 34 = some (4, 32) := by kernel_rfl
@[simp] theorem strB_34 : strB Tryz.prog 34 = false := by kernel_rfl
@[simp] theorem bolB_34 : bolB Tryz.prog 34 = false := by kernel_rfl
@[simp] theorem mapB_34 : mapB Tryz.prog 34 = false := by kernel_rfl
@[simp] theorem intK_34 : intK Tryz.prog 34 = none := by kernel_rfl
@[simp] theorem zrow_34 : zrow Tryz.prog 34 = some [AV.sc (Value.int IntKind.u32 0), AV.sc (Value.int IntKind.u32 0), AV.sc (Value.int IntKind.u32 0), AV.sc (Value.int IntKind.u32 0)] := by kernel_rfl
@[simp] theorem bldOk_34 : bldOk Tryz.prog 34 = true := by kernel_rfl
@[simp] theorem tcs_34 : tcs Tryz.prog 34 = [32, 32, 32, 32] := by kernel_rfl
@[simp] theorem srcT_34 : srcT Tryz.prog 34 = false := by kernel_rfl
@[simp] theorem zok_34 : zok Tryz.prog 34 = true := by kernel_rfl
@[simp] theorem flds_34 : flds Tryz.prog 34 = [] := by kernel_rfl
@[simp] theorem zeros_34 : zeros Tryz.prog 34 = some [Value.int IntKind.u32 0, Value.int IntKind.u32 0, Value.int IntKind.u32 0, Value.int IntKind.u32 0] := by kernel_rfl
@[simp] theorem isinfo_34 : (Tryz.prog.info? 34).isSome = true := by kernel_rfl
@[simp] theorem isund_34 : (Tryz.prog.underlying 34).isSome = true := by kernel_rfl
@[simp] theorem cellsOf_36 : Tryz.prog.cellsOf 36 = 9 := by kernel_rfl
@[simp] theorem bytesOf_36 : Tryz.prog.bytesOf 36 = 88 := by kernel_rfl
@[simp] theorem slel_36 : slel Tryz.prog 36 = none := by kernel_rfl
@[simp] theorem isAggB_36 : isAggB Tryz.prog 36 = true := by kernel_rfl
@[simp] theorem tOk_36 : tOk Tryz.prog 36 = true := by kernel_rfl
@[simp] theorem arrOf_36 : arrOf Tryz.prog 36 = none := by kernel_rfl
@[simp] theorem strB_36 : strB Tryz.prog 36 = false := by kernel_rfl
@[simp] theorem bolB_36 : bolB Tryz.prog 36 = false := by kernel_rfl
@[simp] theorem mapB_36 : mapB Tryz.prog 36 = false := by kernel_rfl
@[simp] theorem intK_36 : intK Tryz.prog 36 = none := by kernel_rfl
@[simp] theorem zrow_36 : zrow Tryz.prog 36 = some [AV.sc (Value.int IntKind.i64 0), AV.sl false 1 [], AV.sc (Value.string { data := { toList := [] } }), AV.sc (Value.int IntKind.i64 0), AV.sc (Value.int IntKind.u32 0), AV.sc (Value.int IntKind.u32 0), AV.sc (Value.int IntKind.u32 0), AV.sc (Value.int IntKind.u32 0), AV.sc (Value.string { data := { toList := [] } })] := by kernel_rfl
@[simp] theorem bldOk_36 : bldOk Tryz.prog 36 = true := by kernel_rfl
@[simp] theorem tcs_36 : tcs Tryz.prog 36 = [3, 31, 9, 3, 32, 32, 32, 32, 9] := by kernel_rfl
@[simp] theorem srcT_36 : srcT Tryz.prog 36 = false := by kernel_rfl
@[simp] theorem zok_36 : zok Tryz.prog 36 = true := by kernel_rfl
@[simp] theorem flds_36 : flds Tryz.prog 36 = [(0, 1, 3), (1, 1, 31), (2, 1, 9), (3, 1, 3), (4, 4, 34), (8, 1, 9)] := by kernel_rfl
@[simp] theorem zeros_36 : zeros Tryz.prog 36 = some [Value.int IntKind.i64 0, Value.slice none 0 0, Value.string { data := { toList := [] } }, Value.int IntKind.i64 0, Value.int IntKind.u32 0, Value.int IntKind.u32 0, Value.int IntKind.u32 0, Value.int IntKind.u32 0, Value.string { data := { toList := [] } }] := by kernel_rfl
@[simp] theorem isinfo_36 : (Tryz.prog.info? 36).isSome = true := by kernel_rfl
@[simp] theorem isund_36 : (Tryz.prog.underlying 36).isSome = true := by kernel_rfl
@[simp] theorem cellsOf_44 : Tryz.prog.cellsOf 44 = 3 := by kernel_rfl
@[simp] theorem bytesOf_44 : Tryz.prog.bytesOf 44 = 24 := by kernel_rfl
@[simp] theorem slel_44 : slel Tryz.prog 44 = none := by kernel_rfl
@[simp] theorem isAggB_44 : isAggB Tryz.prog 44 = true := by kernel_rfl
@[simp] theorem tOk_44 : tOk Tryz.prog 44 = true := by kernel_rfl
@[simp] theorem arrOf_44 : arrOf Tryz.prog 44 = none := by kernel_rfl
@[simp] theorem strB_44 : strB Tryz.prog 44 = false := by kernel_rfl
@[simp] theorem bolB_44 : bolB Tryz.prog 44 = false := by kernel_rfl
@[simp] theorem mapB_44 : mapB Tryz.prog 44 = false := by kernel_rfl
@[simp] theorem intK_44 : intK Tryz.prog 44 = none := by kernel_rfl
@[simp] theorem zrow_44 : zrow Tryz.prog 44 = some [AV.sc (Value.int IntKind.i64 0), AV.sc (Value.int IntKind.i64 0), AV.sc (Value.int IntKind.i64 0)] := by kernel_rfl
@[simp] theorem bldOk_44 : bldOk Tryz.prog 44 = true := by kernel_rfl
@[simp] theorem tcs_44 : tcs Tryz.prog 44 = [24, 3, 3] := by kernel_rfl
@[simp] theorem srcT_44 : srcT Tryz.prog 44 = false := by kernel_rfl
@[simp] theorem zok_44 : zok Tryz.prog 44 = true := by kernel_rfl
@[simp] theorem flds_44 : flds Tryz.prog 44 = [(0, 1, 24), (1, 1, 3), (2, 1, 3)] := by kernel_rfl
@[simp] theorem zeros_44 : zeros Tryz.prog 44 = some [Value.int IntKind.i64 0, Value.int IntKind.i64 0, Value.int IntKind.i64 0] := by kernel_rfl
@[simp] theorem isinfo_44 : (Tryz.prog.info? 44).isSome = true := by kernel_rfl
@[simp] theorem isund_44 : (Tryz.prog.underlying 44).isSome = true := by kernel_rfl
@[simp] theorem cellsOf_50 : Tryz.prog.cellsOf 50 = 1 := by kernel_rfl
@[simp] theorem bytesOf_50 : Tryz.prog.bytesOf 50 = 0 := by kernel_rfl
@[simp] theorem slel_50 : slel Tryz.prog 50 = none := by kernel_rfl
@[simp] theorem isAggB_50 : isAggB Tryz.prog 50 = false := by kernel_rfl
@[simp] theorem tOk_50 : tOk Tryz.prog 50 = true := by kernel_rfl
@[simp] theorem arrOf_50 : arrOf Tryz.prog 50 = none := by kernel_rfl
@[simp] theorem strB_50 : strB Tryz.prog 50 = false := by kernel_rfl
@[simp] theorem bolB_50 : bolB Tryz.prog 50 = false := by kernel_rfl
@[simp] theorem mapB_50 : mapB Tryz.prog 50 = false := by kernel_rfl
@[simp] theorem intK_50 : intK Tryz.prog 50 = none := by kernel_rfl
@[simp] theorem zrow_50 : zrow Tryz.prog 50 = none := by kernel_rfl
@[simp] theorem bldOk_50 : bldOk Tryz.prog 50 = false := by kernel_rfl
@[simp] theorem tcs_50 : tcs Tryz.prog 50 = [50] := by kernel_rfl
@[simp] theorem srcT_50 : srcT Tryz.prog 50 = false := by kernel_rfl
@[simp] theorem zok_50 : zok Tryz.prog 50 = true := by kernel_rfl
@[simp] theorem flds_50 : flds Tryz.prog 50 = [] := by kernel_rfl
@[simp] theorem zeros_50 : zeros Tryz.prog 50 = some [Value.tuple { toList := [Value.int IntKind.i64 0, Value.int IntKind.i64 0] }] := by kernel_rfl
@[simp] theorem isinfo_50 : (Tryz.prog.info? 50).isSome = true := by kernel_rfl
@[simp] theorem isund_50 : (Tryz.prog.underlying 50).isSome = true := by kernel_rfl
@[simp] theorem cellsOf_53 : Tryz.prog.cellsOf 53 = 3 := by kernel_rfl
@[simp] theorem bytesOf_53 : Tryz.prog.bytesOf 53 = 32 := by kernel_rfl
@[simp] theorem slel_53 : slel Tryz.prog 53 = none := by kernel_rfl
@[simp] theorem isAggB_53 : isAggB Tryz.prog 53 = true := by kernel_rfl
@[simp] theorem tOk_53 : tOk Tryz.prog 53 = true := by kernel_rfl
@[simp] theorem arrOf_53 : arrOf Tryz.prog 53 = none := by kernel_rfl
@[simp] theorem strB_53 : strB Tryz.prog 53 = false := by kernel_rfl
@[simp] theorem bolB_53 : bolB Tryz.prog 53 = false := by kernel_rfl
@[simp] theorem mapB_53 : mapB Tryz.prog 53 = false := by kernel_rfl
@[simp] theorem intK_53 : intK Tryz.prog 53 = none := by kernel_rfl
@[simp] theorem zrow_53 : zrow Tryz.prog 53 = some [AV.sc (Value.int IntKind.i64 0), AV.sc (Value.string { data := { toList := [] } }), AV.sc (Value.int IntKind.i64 0)] := by kernel_rfl
@[simp] theorem bldOk_53 : bldOk Tryz.prog 53 = true := by kernel_rfl
@[simp] theorem tcs_53 : tcs Tryz.prog 53 = [3, 9, 3] := by kernel_rfl
@[simp] theorem srcT_53 : srcT Tryz.prog 53 = false := by kernel_rfl
@[simp] theorem zok_53 : zok Tryz.prog 53 = true := by kernel_rfl
@[simp] theorem flds_53 : flds Tryz.prog 53 = [(0, 1, 3), (1, 1, 9), (2, 1, 3)] := by kernel_rfl
@[simp] theorem zeros_53 : zeros Tryz.prog 53 = some [Value.int IntKind.i64 0, Value.string { data := { toList := [] } }, Value.int IntKind.i64 0] := by kernel_rfl
@[simp] theorem isinfo_53 : (Tryz.prog.info? 53).isSome = true := by kernel_rfl
@[simp] theorem isund_53 : (Tryz.prog.underlying 53).isSome = true := by kernel_rfl
@[simp] theorem cellsOf_54 : Tryz.prog.cellsOf 54 = 1 := by kernel_rfl
@[simp] theorem bytesOf_54 : Tryz.prog.bytesOf 54 = 0 := by kernel_rfl
@[simp] theorem slel_54 : slel Tryz.prog 54 = none := by kernel_rfl
@[simp] theorem isAggB_54 : isAggB Tryz.prog 54 = false := by kernel_rfl
@[simp] theorem tOk_54 : tOk Tryz.prog 54 = true := by kernel_rfl
@[simp] theorem arrOf_54 : arrOf Tryz.prog 54 = none := by kernel_rfl
@[simp] theorem strB_54 : strB Tryz.prog 54 = false := by kernel_rfl
@[simp] theorem bolB_54 : bolB Tryz.prog 54 = false := by kernel_rfl
@[simp] theorem mapB_54 : mapB Tryz.prog 54 = false := by kernel_rfl
@[simp] theorem intK_54 : intK Tryz.prog 54 = none := by kernel_rfl
@[simp] theorem zrow_54 : zrow Tryz.prog 54 = none := by kernel_rfl
@[simp] theorem bldOk_54 : bldOk Tryz.prog 54 = false := by kernel_rfl
@[simp] theorem tcs_54 : tcs Tryz.prog 54 = [54] := by kernel_rfl
@[simp] theorem srcT_54 : srcT Tryz.prog 54 = false := by kernel_rfl
@[simp] theorem zok_54 : zok Tryz.prog 54 = true := by kernel_rfl
@[simp] theorem flds_54 : flds Tryz.prog 54 = [] := by kernel_rfl
@[simp] theorem zeros_54 : zeros Tryz.prog 54 = some [Value.tuple { toList := [Value.agg { toList := [Value.int IntKind.i64 0, Value.string { data := { toList := [] } }, Value.int IntKind.i64 0] }, Value.int IntKind.i64 0] }] := by kernel_rfl
@[simp] theorem isinfo_54 : (Tryz.prog.info? 54).isSome = true := by kernel_rfl
@[simp] theorem isund_54 : (Tryz.prog.underlying 54).isSome = true := by kernel_rfl
@[simp] theorem cellsOf_63 : Tryz.prog.cellsOf 63 = 18 := by kernel_rfl
@[simp] theorem bytesOf_63 : Tryz.prog.bytesOf 63 = 176 := by kernel_rfl
@[simp] theorem slel_63 : slel Tryz.prog 63 = none := by kernel_rfl
@[simp] theorem isAggB_63 : isAggB Tryz.prog 63 = true := by kernel_rfl
@[simp] theorem tOk_63 : tOk Tryz.prog 63 = true := by kernel_rfl
@[simp] theorem arrOf_63 : arrOf Tryz.prog 63 = some (2, 36) := by kernel_rfl
@[simp] theorem strB_63 : strB Tryz.prog 63 = false := by kernel_rfl
@[simp] theorem bolB_63 : bolB Tryz.prog 63 = false := by kernel_rfl
@[simp] theorem mapB_63 : mapB Tryz.prog 63 = false := by kernel_rfl
@[simp] theorem intK_63 : intK Tryz.prog 63 = none := by kernel_rfl
@[simp] theorem zrow_63 : zrow Tryz.prog 63 = some [AV.sc (Value.int IntKind.i64 0), AV.sl false 1 [], AV.sc (Value.string { data := { toList := [] } }), AV.sc (Value.int IntKind.i64 0), AV.sc (Value.int IntKind.u32 0), AV.sc (Value.int IntKind.u32 0), AV.sc (Value.int IntKind.u32 0), AV.sc (Value.int IntKind.u32 0), AV.sc (Value.string { data := { toList := [] } }), AV.sc (Value.int IntKind.i64 0), AV.sl false 1 [], AV.sc (Value.string { data := { toList := [] } }), AV.sc (Value.int IntKind.i64 0), AV.sc (Value.int IntKind.u32 0), AV.sc (Value.int IntKind.u32 0), AV.sc (Value.int IntKind.u32 0), AV.sc (Value.int IntKind.u32 0), AV.sc (Value.string { data := { toList := [] } })] := by kernel_rfl
@[simp] theorem bldOk_63 : bldOk Tryz.prog 63 = true := by kernel_rfl
@[simp] theorem tcs_63 : tcs Tryz.prog 63 = [3, 31, 9, 3, 32, 32, 32, 32, 9, 3, 31, 9, 3, 32, 32, 32, 32, 9] := by kernel_rfl
@[simp] theorem srcT_63 : srcT Tryz.prog 63 = false := by kernel_rfl
@[simp] theorem zok_63 : zok Tryz.prog 63 = true := by kernel_rfl
@[simp] theorem flds_63 : flds Tryz.prog 63 = [] := by kernel_rfl
@[simp] theorem zeros_63 : zeros Tryz.prog 63 = some [Value.int IntKind.i64 0, Value.slice none 0 0, Value.string { data := { toList := [] } }, Value.int IntKind.i64 0, Value.int IntKind.u32 0, Value.int IntKind.u32 0, Value.int IntKind.u32 0, Value.int IntKind.u32 0, Value.string { data := { toList := [] } }, Value.int IntKind.i64 0, Value.slice none 0 0, Value.string { data := { toList := [] } }, Value.int IntKind.i64 0, Value.int IntKind.u32 0, Value.int IntKind.u32 0, Value.int IntKind.u32 0, Value.int IntKind.u32 0, Value.string { data := { toList := [] } }] := by kernel_rfl
@[simp] theorem isinfo_63 : (Tryz.prog.info? 63).isSome = true := by kernel_rfl
@[simp] theorem isund_63 : (Tryz.prog.underlying 63).isSome = true := by kernel_rfl
@[simp] theorem cellsOf_76 : Tryz.prog.cellsOf 76 = 1 := by kernel_rfl
@[simp] theorem bytesOf_76 : Tryz.prog.bytesOf 76 = 24 := by kernel_rfl
@[simp] theorem slel_76 : slel Tryz.prog 76 = some 9 := by kernel_rfl
@[simp] theorem isAggB_76 : isAggB Tryz.prog 76 = false := by kernel_rfl
@[simp] theorem tOk_76 : tOk Tryz.prog 76 = true := by kernel_rfl
@[simp] theorem arrOf_76 : arrOf Tryz.prog 76 = none := by kernel_rfl
@[simp] theorem strB_76 : strB Tryz.prog 76 = false := by kernel_rfl
@[simp] theorem bolB_76 : bolB Tryz.prog 76 = false := by kernel_rfl
@[simp] theorem mapB_76 : mapB Tryz.prog 76 = false := by kernel_rfl
@[simp] theorem intK_76 : intK Tryz.prog 76 = none := by kernel_rfl
@[simp] theorem zrow_76 : zrow Tryz.prog 76 = some [AV.sl false 1 []] := by kernel_rfl
@[simp] theorem bldOk_76 : bldOk Tryz.prog 76 = false := by kernel_rfl
@[simp] theorem tcs_76 : tcs Tryz.prog 76 = [76] := by kernel_rfl
@[simp] theorem srcT_76 : srcT Tryz.prog 76 = true := by kernel_rfl
@[simp] theorem zok_76 : zok Tryz.prog 76 = true := by kernel_rfl
@[simp] theorem flds_76 : flds Tryz.prog 76 = [] := by kernel_rfl
@[simp] theorem zeros_76 : zeros Tryz.prog 76 = some [Value.slice none 0 0] := by kernel_rfl
@[simp] theorem isinfo_76 : (Tryz.prog.info? 76).isSome = true := by kernel_rfl
@[simp] theorem isund_76 : (Tryz.prog.underlying 76).isSome = true := by kernel_rfl
@[simp] theorem cellsOf_81 : Tryz.prog.cellsOf 81 = 1 := by kernel_rfl
@[simp] theorem bytesOf_81 : Tryz.prog.bytesOf 81 = 0 := by kernel_rfl
@[simp] theorem slel_81 : slel Tryz.prog 81 = none := by kernel_rfl
@[simp] theorem isAggB_81 : isAggB Tryz.prog 81 = false := by kernel_rfl
@[simp] theorem tOk_81 : tOk Tryz.prog 81 = true := by kernel_rfl
@[simp] theorem arrOf_81 : arrOf Tryz.prog 81 = none := by kernel_rfl
@[simp] theorem strB_81 : strB Tryz.prog 81 = false := by kernel_rfl
@[simp] theorem bolB_81 : bolB Tryz.prog 81 = false := by kernel_rfl
@[simp] theorem mapB_81 : mapB Tryz.prog 81 = false := by kernel_rfl
@[simp] theorem intK_81 : intK Tryz.prog 81 = none := by kernel_rfl
@[simp] theorem zrow_81 : zrow Tryz.prog 81 = none := by kernel_rfl
@[simp] theorem bldOk_81 : bldOk Tryz.prog 81 = false := by kernel_rfl
@[simp] theorem tcs_81 : tcs Tryz.prog 81 = [81] := by kernel_rfl
@[simp] theorem srcT_81 : srcT Tryz.prog 81 = false := by kernel_rfl
@[simp] theorem zok_81 : zok Tryz.prog 81 = true := by kernel_rfl
@[simp] theorem flds_81 : flds Tryz.prog 81 = [] := by kernel_rfl
@[simp] theorem zeros_81 : zeros Tryz.prog 81 = some [Value.tuple { toList := [Value.slice none 0 0, Value.int IntKind.i64 0] }] := by kernel_rfl
@[simp] theorem isinfo_81 : (Tryz.prog.info? 81).isSome = true := by kernel_rfl
@[simp] theorem isund_81 : (Tryz.prog.underlying 81).isSome = true := by kernel_rfl
@[simp] theorem cellsOf_83 : Tryz.prog.cellsOf 83 = 1 := by kernel_rfl
@[simp] theorem bytesOf_83 : Tryz.prog.bytesOf 83 = 8 := by kernel_rfl
@[simp] theorem slel_83 : slel Tryz.prog 83 = none := by kernel_rfl
@[simp] theorem isAggB_83 : isAggB Tryz.prog 83 = false := by kernel_rfl
@[simp] theorem tOk_83 : tOk Tryz.prog 83 = true := by kernel_rfl
@[simp] theorem arrOf_83 : arrOf Tryz.prog 83 = none := by kernel_rfl
@[simp] theorem strB_83 : strB Tryz.prog 83 = false := by kernel_rfl
@[simp] theorem bolB_83 : bolB Tryz.prog 83 = false := by kernel_rfl
@[simp] theorem mapB_83 : mapB Tryz.prog 83 = false := by kernel_rfl
@[simp] theorem intK_83 : intK Tryz.prog 83 = none := by kernel_rfl
@[simp] theorem zrow_83 : zrow Tryz.prog 83 = some [AV.sc Value.nilFunc] := by kernel_rfl
@[simp] theorem bldOk_83 : bldOk Tryz.prog 83 = false := by kernel_rfl
@[simp] theorem tcs_83 : tcs Tryz.prog 83 = [83] := by kernel_rfl
@[simp] theorem srcT_83 : srcT Tryz.prog 83 = false := by kernel_rfl
@[simp] theorem zok_83 : zok Tryz.prog 83 = true := by kernel_rfl
@[simp] theorem flds_83 : flds Tryz.prog 83 = [] := by kernel_rfl
@[simp] theorem zeros_83 : zeros Tryz.prog 83 = some [Value.nilFunc] := by kernel_rfl
@[simp] theorem isinfo_83 : (Tryz.prog.info? 83).isSome = true := by kernel_rfl
@[simp] theorem isund_83 : (Tryz.prog.underlying 83).isSome = true := by kernel_rfl
@[simp] theorem cellsOf_86 : Tryz.prog.cellsOf 86 = 1 := by kernel_rfl
@[simp] theorem bytesOf_86 : Tryz.prog.bytesOf 86 = 0 := by kernel_rfl
@[simp] theorem slel_86 : slel Tryz.prog 86 = none := by kernel_rfl
@[simp] theorem isAggB_86 : isAggB Tryz.prog 86 = false := by kernel_rfl
@[simp] theorem tOk_86 : tOk Tryz.prog 86 = true := by kernel_rfl
@[simp] theorem arrOf_86 : arrOf Tryz.prog 86 = none := by kernel_rfl
@[simp] theorem strB_86 : strB Tryz.prog 86 = false := by kernel_rfl
@[simp] theorem bolB_86 : bolB Tryz.prog 86 = false := by kernel_rfl
@[simp] theorem mapB_86 : mapB Tryz.prog 86 = false := by kernel_rfl
@[simp] theorem intK_86 : intK Tryz.prog 86 = none := by kernel_rfl
@[simp] theorem zrow_86 : zrow Tryz.prog 86 = none := by kernel_rfl
@[simp] theorem bldOk_86 : bldOk Tryz.prog 86 = false := by kernel_rfl
@[simp] theorem tcs_86 : tcs Tryz.prog 86 = [86] := by kernel_rfl
@[simp] theorem srcT_86 : srcT Tryz.prog 86 = false := by kernel_rfl
@[simp] theorem zok_86 : zok Tryz.prog 86 = true := by kernel_rfl
@[simp] theorem flds_86 : flds Tryz.prog 86 = [] := by kernel_rfl
@[simp] theorem zeros_86 : zeros Tryz.prog 86 = some [Value.tuple { toList := [Value.string { data := { toList := [] } }, Value.int IntKind.i64 0, Value.int IntKind.i64 0] }] := by kernel_rfl
@[simp] theorem isinfo_86 : (Tryz.prog.info? 86).isSome = true := by kernel_rfl
@[simp] theorem isund_86 : (Tryz.prog.underlying 86).isSome = true := by kernel_rfl
@[simp] theorem cellsOf_89 : Tryz.prog.cellsOf 89 = 8 := by kernel_rfl
@[simp] theorem bytesOf_89 : Tryz.prog.bytesOf 89 = 32 := by kernel_rfl
@[simp] theorem slel_89 : slel Tryz.prog 89 = none := by kernel_rfl
@[simp] theorem isAggB_89 : isAggB Tryz.prog 89 = true := by kernel_rfl
@[simp] theorem tOk_89 : tOk Tryz.prog 89 = true := by kernel_rfl
@[simp] theorem arrOf_89 : arrOf Tryz.prog 89 = some (8, 32) := by kernel_rfl
@[simp] theorem strB_89 : strB Tryz.prog 89 = false := by kernel_rfl
@[simp] theorem bolB_89 : bolB Tryz.prog 89 = false := by kernel_rfl
@[simp] theorem mapB_89 : mapB Tryz.prog 89 = false := by kernel_rfl
@[simp] theorem intK_89 : intK Tryz.prog 89 = none := by kernel_rfl
@[simp] theorem zrow_89 : zrow Tryz.prog 89 = some [AV.sc (Value.int IntKind.u32 0), AV.sc (Value.int IntKind.u32 0), AV.sc (Value.int IntKind.u32 0), AV.sc (Value.int IntKind.u32 0), AV.sc (Value.int IntKind.u32 0), AV.sc (Value.int IntKind.u32 0), AV.sc (Value.int IntKind.u32 0), AV.sc (Value.int IntKind.u32 0)] := by kernel_rfl
@[simp] theorem bldOk_89 : bldOk Tryz.prog 89 = true := by kernel_rfl
@[simp] theorem tcs_89 : tcs Tryz.prog 89 = [32, 32, 32, 32, 32, 32, 32, 32] := by kernel_rfl
@[simp] theorem srcT_89 : srcT Tryz.prog 89 = false := by kernel_rfl
@[simp] theorem zok_89 : zok Tryz.prog 89 = true := by kernel_rfl
@[simp] theorem flds_89 : flds Tryz.prog 89 = [] := by kernel_rfl
@[simp] theorem zeros_89 : zeros Tryz.prog 89 = some [Value.int IntKind.u32 0, Value.int IntKind.u32 0, Value.int IntKind.u32 0, Value.int IntKind.u32 0, Value.int IntKind.u32 0, Value.int IntKind.u32 0, Value.int IntKind.u32 0, Value.int IntKind.u32 0] := by kernel_rfl
@[simp] theorem isinfo_89 : (Tryz.prog.info? 89).isSome = true := by kernel_rfl
@[simp] theorem isund_89 : (Tryz.prog.underlying 89).isSome = true := by kernel_rfl
@[simp] theorem cellsOf_98 : Tryz.prog.cellsOf 98 = 1 := by kernel_rfl
@[simp] theorem bytesOf_98 : Tryz.prog.bytesOf 98 = 0 := by kernel_rfl
@[simp] theorem slel_98 : slel Tryz.prog 98 = none := by kernel_rfl
@[simp] theorem isAggB_98 : isAggB Tryz.prog 98 = false := by kernel_rfl
@[simp] theorem tOk_98 : tOk Tryz.prog 98 = true := by kernel_rfl
@[simp] theorem arrOf_98 : arrOf Tryz.prog 98 = none := by kernel_rfl
@[simp] theorem strB_98 : strB Tryz.prog 98 = false := by kernel_rfl
@[simp] theorem bolB_98 : bolB Tryz.prog 98 = false := by kernel_rfl
@[simp] theorem mapB_98 : mapB Tryz.prog 98 = false := by kernel_rfl
@[simp] theorem intK_98 : intK Tryz.prog 98 = none := by kernel_rfl
@[simp] theorem zrow_98 : zrow Tryz.prog 98 = none := by kernel_rfl
@[simp] theorem bldOk_98 : bldOk Tryz.prog 98 = false := by kernel_rfl
@[simp] theorem tcs_98 : tcs Tryz.prog 98 = [98] := by kernel_rfl
@[simp] theorem srcT_98 : srcT Tryz.prog 98 = false := by kernel_rfl
@[simp] theorem zok_98 : zok Tryz.prog 98 = true := by kernel_rfl
@[simp] theorem flds_98 : flds Tryz.prog 98 = [] := by kernel_rfl
@[simp] theorem zeros_98 : zeros Tryz.prog 98 = some [Value.tuple { toList := [Value.string { data := { toList := [] } }, Value.bool false] }] := by kernel_rfl
@[simp] theorem isinfo_98 : (Tryz.prog.info? 98).isSome = true := by kernel_rfl
@[simp] theorem isund_98 : (Tryz.prog.underlying 98).isSome = true := by kernel_rfl
@[simp] theorem cellsOf_123 : Tryz.prog.cellsOf 123 = 1 := by kernel_rfl
@[simp] theorem bytesOf_123 : Tryz.prog.bytesOf 123 = 24 := by kernel_rfl
@[simp] theorem slel_123 : slel Tryz.prog 123 = some 224 := by kernel_rfl
@[simp] theorem isAggB_123 : isAggB Tryz.prog 123 = false := by kernel_rfl
@[simp] theorem tOk_123 : tOk Tryz.prog 123 = true := by kernel_rfl
@[simp] theorem arrOf_123 : arrOf Tryz.prog 123 = none := by kernel_rfl
@[simp] theorem strB_123 : strB Tryz.prog 123 = false := by kernel_rfl
@[simp] theorem bolB_123 : bolB Tryz.prog 123 = false := by kernel_rfl
@[simp] theorem mapB_123 : mapB Tryz.prog 123 = false := by kernel_rfl
@[simp] theorem intK_123 : intK Tryz.prog 123 = none := by kernel_rfl
@[simp] theorem zrow_123 : zrow Tryz.prog 123 = some [AV.sl false 2 []] := by kernel_rfl
@[simp] theorem bldOk_123 : bldOk Tryz.prog 123 = false := by kernel_rfl
@[simp] theorem tcs_123 : tcs Tryz.prog 123 = [123] := by kernel_rfl
@[simp] theorem srcT_123 : srcT Tryz.prog 123 = true := by kernel_rfl
@[simp] theorem zok_123 : zok Tryz.prog 123 = true := by kernel_rfl
@[simp] theorem flds_123 : flds Tryz.prog 123 = [] := by kernel_rfl
@[simp] theorem zeros_123 : zeros Tryz.prog 123 = some [Value.slice none 0 0] := by kernel_rfl
@[simp] theorem isinfo_123 : (Tryz.prog.info? 123).isSome = true := by kernel_rfl
@[simp] theorem isund_123 : (Tryz.prog.underlying 123).isSome = true := by kernel_rfl
@[simp] theorem cellsOf_124 : Tryz.prog.cellsOf 124 = 1 := by kernel_rfl
@[simp] theorem bytesOf_124 : Tryz.prog.bytesOf 124 = 24 := by kernel_rfl
@[simp] theorem slel_124 : slel Tryz.prog 124 = some 227 := by kernel_rfl
@[simp] theorem isAggB_124 : isAggB Tryz.prog 124 = false := by kernel_rfl
@[simp] theorem tOk_124 : tOk Tryz.prog 124 = true := by kernel_rfl
@[simp] theorem arrOf_124 : arrOf Tryz.prog 124 = none := by kernel_rfl
@[simp] theorem strB_124 : strB Tryz.prog 124 = false := by kernel_rfl
@[simp] theorem bolB_124 : bolB Tryz.prog 124 = false := by kernel_rfl
@[simp] theorem mapB_124 : mapB Tryz.prog 124 = false := by kernel_rfl
@[simp] theorem intK_124 : intK Tryz.prog 124 = none := by kernel_rfl
@[simp] theorem zrow_124 : zrow Tryz.prog 124 = some [AV.sl false 5 []] := by kernel_rfl
@[simp] theorem bldOk_124 : bldOk Tryz.prog 124 = false := by kernel_rfl
@[simp] theorem tcs_124 : tcs Tryz.prog 124 = [124] := by kernel_rfl
@[simp] theorem srcT_124 : srcT Tryz.prog 124 = true := by kernel_rfl
@[simp] theorem zok_124 : zok Tryz.prog 124 = true := by kernel_rfl
@[simp] theorem flds_124 : flds Tryz.prog 124 = [] := by kernel_rfl
@[simp] theorem zeros_124 : zeros Tryz.prog 124 = some [Value.slice none 0 0] := by kernel_rfl
@[simp] theorem isinfo_124 : (Tryz.prog.info? 124).isSome = true := by kernel_rfl
@[simp] theorem isund_124 : (Tryz.prog.underlying 124).isSome = true := by kernel_rfl
@[simp] theorem cellsOf_126 : Tryz.prog.cellsOf 126 = 3 := by kernel_rfl
@[simp] theorem bytesOf_126 : Tryz.prog.bytesOf 126 = 72 := by kernel_rfl
@[simp] theorem slel_126 : slel Tryz.prog 126 = none := by kernel_rfl
@[simp] theorem isAggB_126 : isAggB Tryz.prog 126 = true := by kernel_rfl
@[simp] theorem tOk_126 : tOk Tryz.prog 126 = true := by kernel_rfl
@[simp] theorem arrOf_126 : arrOf Tryz.prog 126 = none := by kernel_rfl
@[simp] theorem strB_126 : strB Tryz.prog 126 = false := by kernel_rfl
@[simp] theorem bolB_126 : bolB Tryz.prog 126 = false := by kernel_rfl
@[simp] theorem mapB_126 : mapB Tryz.prog 126 = false := by kernel_rfl
@[simp] theorem intK_126 : intK Tryz.prog 126 = none := by kernel_rfl
@[simp] theorem zrow_126 : zrow Tryz.prog 126 = some [AV.sl false 1 [], AV.sl false 2 [], AV.sl false 5 []] := by kernel_rfl
@[simp] theorem bldOk_126 : bldOk Tryz.prog 126 = true := by kernel_rfl
@[simp] theorem tcs_126 : tcs Tryz.prog 126 = [76, 123, 124] := by kernel_rfl
@[simp] theorem srcT_126 : srcT Tryz.prog 126 = false := by kernel_rfl
@[simp] theorem zok_126 : zok Tryz.prog 126 = true := by kernel_rfl
@[simp] theorem flds_126 : flds Tryz.prog 126 = [(0, 1, 76), (1, 1, 123), (2, 1, 124)] := by kernel_rfl
@[simp] theorem zeros_126 : zeros Tryz.prog 126 = some [Value.slice none 0 0, Value.slice none 0 0, Value.slice none 0 0] := by kernel_rfl
@[simp] theorem isinfo_126 : (Tryz.prog.info? 126).isSome = true := by kernel_rfl
@[simp] theorem isund_126 : (Tryz.prog.underlying 126).isSome = true := by kernel_rfl
@[simp] theorem cellsOf_127 : Tryz.prog.cellsOf 127 = 1 := by kernel_rfl
@[simp] theorem bytesOf_127 : Tryz.prog.bytesOf 127 = 0 := by kernel_rfl
@[simp] theorem slel_127 : slel Tryz.prog 127 = none := by kernel_rfl
@[simp] theorem isAggB_127 : isAggB Tryz.prog 127 = false := by kernel_rfl
@[simp] theorem tOk_127 : tOk Tryz.prog 127 = true := by kernel_rfl
@[simp] theorem arrOf_127 : arrOf Tryz.prog 127 = none := by kernel_rfl
@[simp] theorem strB_127 : strB Tryz.prog 127 = false := by kernel_rfl
@[simp] theorem bolB_127 : bolB Tryz.prog 127 = false := by kernel_rfl
@[simp] theorem mapB_127 : mapB Tryz.prog 127 = false := by kernel_rfl
@[simp] theorem intK_127 : intK Tryz.prog 127 = none := by kernel_rfl
@[simp] theorem zrow_127 : zrow Tryz.prog 127 = none := by kernel_rfl
@[simp] theorem bldOk_127 : bldOk Tryz.prog 127 = false := by kernel_rfl
@[simp] theorem tcs_127 : tcs Tryz.prog 127 = [127] := by kernel_rfl
@[simp] theorem srcT_127 : srcT Tryz.prog 127 = false := by kernel_rfl
@[simp] theorem zok_127 : zok Tryz.prog 127 = true := by kernel_rfl
@[simp] theorem flds_127 : flds Tryz.prog 127 = [] := by kernel_rfl
@[simp] theorem zeros_127 : zeros Tryz.prog 127 = some [Value.tuple { toList := [Value.agg { toList := [Value.slice none 0 0, Value.slice none 0 0, Value.slice none 0 0] }, Value.int IntKind.i64 0, Value.int IntKind.i64 0] }] := by kernel_rfl
@[simp] theorem isinfo_127 : (Tryz.prog.info? 127).isSome = true := by kernel_rfl
@[simp] theorem isund_127 : (Tryz.prog.underlying 127).isSome = true := by kernel_rfl
@[simp] theorem cellsOf_162 : Tryz.prog.cellsOf 162 = 1 := by kernel_rfl
@[simp] theorem bytesOf_162 : Tryz.prog.bytesOf 162 = 24 := by kernel_rfl
@[simp] theorem slel_162 : slel Tryz.prog 162 = some 119 := by kernel_rfl
@[simp] theorem isAggB_162 : isAggB Tryz.prog 162 = false := by kernel_rfl
@[simp] theorem tOk_162 : tOk Tryz.prog 162 = true := by kernel_rfl
@[simp] theorem arrOf_162 : arrOf Tryz.prog 162 = none := by kernel_rfl
@[simp] theorem strB_162 : strB Tryz.prog 162 = false := by kernel_rfl
@[simp] theorem bolB_162 : bolB Tryz.prog 162 = false := by kernel_rfl
@[simp] theorem mapB_162 : mapB Tryz.prog 162 = false := by kernel_rfl
@[simp] theorem intK_162 : intK Tryz.prog 162 = none := by kernel_rfl
@[simp] theorem zrow_162 : zrow Tryz.prog 162 = some [AV.sl false 4 []] := by kernel_rfl
@[simp] theorem bldOk_162 : bldOk Tryz.prog 162 = false := by kernel_rfl
@[simp] theorem tcs_162 : tcs Tryz.prog 162 = [162] := by kernel_rfl
@[simp] theorem srcT_162 : srcT Tryz.prog 162 = true := by kernel_rfl
@[simp] theorem zok_162 : zok Tryz.prog 162 = true := by kernel_rfl
@[simp] theorem flds_162 : flds Tryz.prog 162 = [] := by kernel_rfl
@[simp] theorem zeros_162 : zeros Tryz.prog 162 = some [Value.slice none 0 0] := by kernel_rfl
@[simp] theorem isinfo_162 : (Tryz.prog.info? 162).isSome = true := by kernel_rfl
@[simp] theorem isund_162 : (Tryz.prog.underlying 162).isSome = true := by kernel_rfl
@[simp] theorem cellsOf_164 : Tryz.prog.cellsOf 164 = 1 := by kernel_rfl
@[simp] theorem bytesOf_164 : Tryz.prog.bytesOf 164 = 8 := by kernel_rfl
@[simp] theorem slel_164 : slel Tryz.prog 164 = none := by kernel_rfl
@[simp] theorem isAggB_164 : isAggB Tryz.prog 164 = false := by kernel_rfl
@[simp] theorem tOk_164 : tOk Tryz.prog 164 = true := by kernel_rfl
@[simp] theorem arrOf_164 : arrOf Tryz.prog 164 = none := by kernel_rfl
@[simp] theorem strB_164 : strB Tryz.prog 164 = false := by kernel_rfl
@[simp] theorem bolB_164 : bolB Tryz.prog 164 = false := by kernel_rfl
@[simp] theorem mapB_164 : mapB Tryz.prog 164 = false := by kernel_rfl
@[simp] theorem intK_164 : intK Tryz.prog 164 = none := by kernel_rfl
@[simp] theorem zrow_164 : zrow Tryz.prog 164 = some [AV.sc Value.nilFunc] := by kernel_rfl
@[simp] theorem bldOk_164 : bldOk Tryz.prog 164 = false := by kernel_rfl
@[simp] theorem tcs_164 : tcs Tryz.prog 164 = [164] := by kernel_rfl
@[simp] theorem srcT_164 : srcT Tryz.prog 164 = false := by kernel_rfl
@[simp] theorem zok_164 : zok Tryz.prog 164 = true := by kernel_rfl
@[simp] theorem flds_164 : flds Tryz.prog 164 = [] := by kernel_rfl
@[simp] theorem zeros_164 : zeros Tryz.prog 164 = some [Value.nilFunc] := by kernel_rfl
@[simp] theorem isinfo_164 : (Tryz.prog.info? 164).isSome = true := by kernel_rfl
@[simp] theorem isund_164 : (Tryz.prog.underlying 164).isSome = true := by kernel_rfl
@[simp] theorem cellsOf_168 : Tryz.prog.cellsOf 168 = 1 := by kernel_rfl
@[simp] theorem bytesOf_168 : Tryz.prog.bytesOf 168 = 8 := by kernel_rfl
@[simp] theorem slel_168 : slel Tryz.prog 168 = none := by kernel_rfl
@[simp] theorem isAggB_168 : isAggB Tryz.prog 168 = false := by kernel_rfl
@[simp] theorem tOk_168 : tOk Tryz.prog 168 = true := by kernel_rfl
@[simp] theorem arrOf_168 : arrOf Tryz.prog 168 = none := by kernel_rfl
@[simp] theorem strB_168 : strB Tryz.prog 168 = false := by kernel_rfl
@[simp] theorem bolB_168 : bolB Tryz.prog 168 = false := by kernel_rfl
@[simp] theorem mapB_168 : mapB Tryz.prog 168 = false := by kernel_rfl
@[simp] theorem intK_168 : intK Tryz.prog 168 = none := by kernel_rfl
@[simp] theorem zrow_168 : zrow Tryz.prog 168 = some [AV.sc (Value.pointer none)] := by kernel_rfl
@[simp] theorem bldOk_168 : bldOk Tryz.prog 168 = false := by kernel_rfl
@[simp] theorem tcs_168 : tcs Tryz.prog 168 = [168] := by kernel_rfl
@[simp] theorem srcT_168 : srcT Tryz.prog 168 = false := by kernel_rfl
@[simp] theorem zok_168 : zok Tryz.prog 168 = true := by kernel_rfl
@[simp] theorem flds_168 : flds Tryz.prog 168 = [] := by kernel_rfl
@[simp] theorem zeros_168 : zeros Tryz.prog 168 = some [Value.pointer none] := by kernel_rfl
@[simp] theorem isinfo_168 : (Tryz.prog.info? 168).isSome = true := by kernel_rfl
@[simp] theorem isund_168 : (Tryz.prog.underlying 168).isSome = true := by kernel_rfl
@[simp] theorem cellsOf_170 : Tryz.prog.cellsOf 170 = 1 := by kernel_rfl
@[simp] theorem bytesOf_170 : Tryz.prog.bytesOf 170 = 8 := by kernel_rfl
@[simp] theorem slel_170 : slel Tryz.prog 170 = none := by kernel_rfl
@[simp] theorem isAggB_170 : isAggB Tryz.prog 170 = false := by kernel_rfl
@[simp] theorem tOk_170 : tOk Tryz.prog 170 = true := by kernel_rfl
@[simp] theorem arrOf_170 : arrOf Tryz.prog 170 = none := by kernel_rfl
@[simp] theorem strB_170 : strB Tryz.prog 170 = false := by kernel_rfl
@[simp] theorem bolB_170 : bolB Tryz.prog 170 = false := by kernel_rfl
@[simp] theorem mapB_170 : mapB Tryz.prog 170 = false := by kernel_rfl
@[simp] theorem intK_170 : intK Tryz.prog 170 = none := by kernel_rfl
@[simp] theorem zrow_170 : zrow Tryz.prog 170 = some [AV.sc Value.nilFunc] := by kernel_rfl
@[simp] theorem bldOk_170 : bldOk Tryz.prog 170 = false := by kernel_rfl
@[simp] theorem tcs_170 : tcs Tryz.prog 170 = [170] := by kernel_rfl
@[simp] theorem srcT_170 : srcT Tryz.prog 170 = false := by kernel_rfl
@[simp] theorem zok_170 : zok Tryz.prog 170 = true := by kernel_rfl
@[simp] theorem flds_170 : flds Tryz.prog 170 = [] := by kernel_rfl
@[simp] theorem zeros_170 : zeros Tryz.prog 170 = some [Value.nilFunc] := by kernel_rfl
@[simp] theorem isinfo_170 : (Tryz.prog.info? 170).isSome = true := by kernel_rfl
@[simp] theorem isund_170 : (Tryz.prog.underlying 170).isSome = true := by kernel_rfl
@[simp] theorem cellsOf_172 : Tryz.prog.cellsOf 172 = 1 := by kernel_rfl
@[simp] theorem bytesOf_172 : Tryz.prog.bytesOf 172 = 8 := by kernel_rfl
@[simp] theorem slel_172 : slel Tryz.prog 172 = none := by kernel_rfl
@[simp] theorem isAggB_172 : isAggB Tryz.prog 172 = false := by kernel_rfl
@[simp] theorem tOk_172 : tOk Tryz.prog 172 = true := by kernel_rfl
@[simp] theorem arrOf_172 : arrOf Tryz.prog 172 = none := by kernel_rfl
@[simp] theorem strB_172 : strB Tryz.prog 172 = false := by kernel_rfl
@[simp] theorem bolB_172 : bolB Tryz.prog 172 = false := by kernel_rfl
@[simp] theorem mapB_172 : mapB Tryz.prog 172 = false := by kernel_rfl
@[simp] theorem intK_172 : intK Tryz.prog 172 = none := by kernel_rfl
@[simp] theorem zrow_172 : zrow Tryz.prog 172 = some [AV.sc (Value.pointer none)] := by kernel_rfl
@[simp] theorem bldOk_172 : bldOk Tryz.prog 172 = false := by kernel_rfl
@[simp] theorem tcs_172 : tcs Tryz.prog 172 = [172] := by kernel_rfl
@[simp] theorem srcT_172 : srcT Tryz.prog 172 = false := by kernel_rfl
@[simp] theorem zok_172 : zok Tryz.prog 172 = true := by kernel_rfl
@[simp] theorem flds_172 : flds Tryz.prog 172 = [] := by kernel_rfl
@[simp] theorem zeros_172 : zeros Tryz.prog 172 = some [Value.pointer none] := by kernel_rfl
@[simp] theorem isinfo_172 : (Tryz.prog.info? 172).isSome = true := by kernel_rfl
@[simp] theorem isund_172 : (Tryz.prog.underlying 172).isSome = true := by kernel_rfl
@[simp] theorem cellsOf_175 : Tryz.prog.cellsOf 175 = 2 := by kernel_rfl
@[simp] theorem bytesOf_175 : Tryz.prog.bytesOf 175 = 32 := by kernel_rfl
@[simp] theorem slel_175 : slel Tryz.prog 175 = none := by kernel_rfl
@[simp] theorem isAggB_175 : isAggB Tryz.prog 175 = true := by kernel_rfl
@[simp] theorem tOk_175 : tOk Tryz.prog 175 = true := by kernel_rfl
@[simp] theorem arrOf_175 : arrOf Tryz.prog 175 = none := by kernel_rfl
@[simp] theorem strB_175 : strB Tryz.prog 175 = false := by kernel_rfl
@[simp] theorem bolB_175 : bolB Tryz.prog 175 = false := by kernel_rfl
@[simp] theorem mapB_175 : mapB Tryz.prog 175 = false := by kernel_rfl
@[simp] theorem intK_175 : intK Tryz.prog 175 = none := by kernel_rfl
@[simp] theorem zrow_175 : zrow Tryz.prog 175 = some [AV.sc (Value.int IntKind.i64 0), AV.sl false 5 []] := by kernel_rfl
@[simp] theorem bldOk_175 : bldOk Tryz.prog 175 = true := by kernel_rfl
@[simp] theorem tcs_175 : tcs Tryz.prog 175 = [3, 173] := by kernel_rfl
@[simp] theorem srcT_175 : srcT Tryz.prog 175 = false := by kernel_rfl
@[simp] theorem zok_175 : zok Tryz.prog 175 = true := by kernel_rfl
@[simp] theorem flds_175 : flds Tryz.prog 175 = [(0, 1, 3), (1, 1, 173)] := by kernel_rfl
@[simp] theorem zeros_175 : zeros Tryz.prog 175 = some [Value.int IntKind.i64 0, Value.slice none 0 0] := by kernel_rfl
@[simp] theorem isinfo_175 : (Tryz.prog.info? 175).isSome = true := by kernel_rfl
@[simp] theorem isund_175 : (Tryz.prog.underlying 175).isSome = true := by kernel_rfl
@[simp] theorem cellsOf_176 : Tryz.prog.cellsOf 176 = 1 := by kernel_rfl
@[simp] theorem bytesOf_176 : Tryz.prog.bytesOf 176 = 24 := by kernel_rfl
@[simp] theorem slel_176 : slel Tryz.prog 176 = some 239 := by kernel_rfl
@[simp] theorem isAggB_176 : isAggB Tryz.prog 176 = false := by kernel_rfl
@[simp] theorem tOk_176 : tOk Tryz.prog 176 = true := by kernel_rfl
@[simp] theorem arrOf_176 : arrOf Tryz.prog 176 = none := by kernel_rfl
@[simp] theorem strB_176 : strB Tryz.prog 176 = false := by kernel_rfl
@[simp] theorem bolB_176 : bolB Tryz.prog 176 = false := by kernel_rfl
@[simp] theorem mapB_176 : mapB Tryz.prog 176 = false := by kernel_rfl
@[simp] theorem intK_176 : intK Tryz.prog 176 = none := by kernel_rfl
@[simp] theorem zrow_176 : zrow Tryz.prog 176 = some [AV.sl false 2 []] := by kernel_rfl
@[simp] theorem bldOk_176 : bldOk Tryz.prog 176 = false := by kernel_rfl
@[simp] theorem tcs_176 : tcs Tryz.prog 176 = [176] := by kernel_rfl
@[simp] theorem srcT_176 : srcT Tryz.prog 176 = true := by kernel_rfl
@[simp] theorem zok_176 : zok Tryz.prog 176 = true := by kernel_rfl
@[simp] theorem flds_176 : flds Tryz.prog 176 = [] := by kernel_rfl
@[simp] theorem zeros_176 : zeros Tryz.prog 176 = some [Value.slice none 0 0] := by kernel_rfl
@[simp] theorem isinfo_176 : (Tryz.prog.info? 176).isSome = true := by kernel_rfl
@[simp] theorem isund_176 : (Tryz.prog.underlying 176).isSome = true := by kernel_rfl
@[simp] theorem cellsOf_178 : Tryz.prog.cellsOf 178 = 2 := by kernel_rfl
@[simp] theorem bytesOf_178 : Tryz.prog.bytesOf 178 = 32 := by kernel_rfl
@[simp] theorem slel_178 : slel Tryz.prog 178 = none := by kernel_rfl
@[simp] theorem isAggB_178 : isAggB Tryz.prog 178 = true := by kernel_rfl
@[simp] theorem tOk_178 : tOk Tryz.prog 178 = true := by kernel_rfl
@[simp] theorem arrOf_178 : arrOf Tryz.prog 178 = none := by kernel_rfl
@[simp] theorem strB_178 : strB Tryz.prog 178 = false := by kernel_rfl
@[simp] theorem bolB_178 : bolB Tryz.prog 178 = false := by kernel_rfl
@[simp] theorem mapB_178 : mapB Tryz.prog 178 = false := by kernel_rfl
@[simp] theorem intK_178 : intK Tryz.prog 178 = none := by kernel_rfl
@[simp] theorem zrow_178 : zrow Tryz.prog 178 = some [AV.sc (Value.int IntKind.i64 0), AV.sl false 2 []] := by kernel_rfl
@[simp] theorem bldOk_178 : bldOk Tryz.prog 178 = true := by kernel_rfl
@[simp] theorem tcs_178 : tcs Tryz.prog 178 = [3, 176] := by kernel_rfl
@[simp] theorem srcT_178 : srcT Tryz.prog 178 = false := by kernel_rfl
@[simp] theorem zok_178 : zok Tryz.prog 178 = true := by kernel_rfl
@[simp] theorem flds_178 : flds Tryz.prog 178 = [(0, 1, 3), (1, 1, 176)] := by kernel_rfl
@[simp] theorem zeros_178 : zeros Tryz.prog 178 = some [Value.int IntKind.i64 0, Value.slice none 0 0] := by kernel_rfl
@[simp] theorem isinfo_178 : (Tryz.prog.info? 178).isSome = true := by kernel_rfl
@[simp] theorem isund_178 : (Tryz.prog.underlying 178).isSome = true := by kernel_rfl
@[simp] theorem cellsOf_180 : Tryz.prog.cellsOf 180 = 11 := by kernel_rfl
@[simp] theorem bytesOf_180 : Tryz.prog.bytesOf 180 = 216 := by kernel_rfl
@[simp] theorem slel_180 : slel Tryz.prog 180 = none := by kernel_rfl
@[simp] theorem isAggB_180 : isAggB Tryz.prog 180 = true := by kernel_rfl
@[simp] theorem tOk_180 : tOk Tryz.prog 180 = true := by kernel_rfl
@[simp] theorem arrOf_180 : arrOf Tryz.prog 180 = none := by kernel_rfl
@[simp] theorem strB_180 : strB Tryz.prog 180 = false := by kernel_rfl
@[simp] theorem bolB_180 : bolB Tryz.prog 180 = false := by kernel_rfl
@[simp] theorem mapB_180 : mapB Tryz.prog 180 = false := by kernel_rfl
@[simp] theorem intK_180 : intK Tryz.prog 180 = none := by kernel_rfl
@[simp] theorem zrow_180 : zrow Tryz.prog 180 = some [AV.sl false 1 [], AV.sl false 2 [], AV.sl false 5 [], AV.sl false 1 [], AV.sc (Value.int IntKind.i64 0), AV.sl false 5 [], AV.sc (Value.int IntKind.i64 0), AV.sl false 2 [], AV.sl false 1 [], AV.sc (Value.int IntKind.i64 0), AV.sl false 1 []] := by kernel_rfl
@[simp] theorem bldOk_180 : bldOk Tryz.prog 180 = true := by kernel_rfl
@[simp] theorem tcs_180 : tcs Tryz.prog 180 = [76, 123, 124, 31, 3, 173, 3, 176, 22, 3, 144] := by kernel_rfl
@[simp] theorem srcT_180 : srcT Tryz.prog 180 = false := by kernel_rfl
@[simp] theorem zok_180 : zok Tryz.prog 180 = true := by kernel_rfl
@[simp] theorem flds_180 : flds Tryz.prog 180 = [(0, 3, 126), (3, 1, 31), (4, 2, 175), (6, 2, 178), (8, 2, 28), (10, 1, 144)] := by kernel_rfl
@[simp] theorem zeros_180 : zeros Tryz.prog 180 = some [Value.slice none 0 0, Value.slice none 0 0, Value.slice none 0 0, Value.slice none 0 0, Value.int IntKind.i64 0, Value.slice none 0 0, Value.int IntKind.i64 0, Value.slice none 0 0, Value.slice none 0 0, Value.int IntKind.i64 0, Value.slice none 0 0] := by kernel_rfl
@[simp] theorem isinfo_180 : (Tryz.prog.info? 180).isSome = true := by kernel_rfl
@[simp] theorem isund_180 : (Tryz.prog.underlying 180).isSome = true := by kernel_rfl
@[simp] theorem cellsOf_182 : Tryz.prog.cellsOf 182 = 4 := by kernel_rfl
@[simp] theorem bytesOf_182 : Tryz.prog.bytesOf 182 = 32 := by kernel_rfl
@[simp] theorem slel_182 : slel Tryz.prog 182 = none := by kernel_rfl
@[simp] theorem isAggB_182 : isAggB Tryz.prog 182 = true := by kernel_rfl
@[simp] theorem tOk_182 : tOk Tryz.prog 182 = true := by kernel_rfl
@[simp] theorem arrOf_182 : arrOf Tryz.prog 182 = some (4, 3) := by kernel_rfl
@[simp] theorem strB_182 : strB Tryz.prog 182 = false := by kernel_rfl
@[simp] theorem bolB_182 : bolB Tryz.prog 182 = false := by kernel_rfl
@[simp] theorem mapB_182 : mapB Tryz.prog 182 = false := by kernel_rfl
@[simp] theorem intK_182 : intK Tryz.prog 182 = none := by kernel_rfl
@[simp] theorem zrow_182 : zrow Tryz.prog 182 = some [AV.sc (Value.int IntKind.i64 0), AV.sc (Value.int IntKind.i64 0), AV.sc (Value.int IntKind.i64 0), AV.sc (Value.int IntKind.i64 0)] := by kernel_rfl
@[simp] theorem bldOk_182 : bldOk Tryz.prog 182 = true := by kernel_rfl
@[simp] theorem tcs_182 : tcs Tryz.prog 182 = [3, 3, 3, 3] := by kernel_rfl
@[simp] theorem srcT_182 : srcT Tryz.prog 182 = false := by kernel_rfl
@[simp] theorem zok_182 : zok Tryz.prog 182 = true := by kernel_rfl
@[simp] theorem flds_182 : flds Tryz.prog 182 = [] := by kernel_rfl
@[simp] theorem zeros_182 : zeros Tryz.prog 182 = some [Value.int IntKind.i64 0, Value.int IntKind.i64 0, Value.int IntKind.i64 0, Value.int IntKind.i64 0] := by kernel_rfl
@[simp] theorem isinfo_182 : (Tryz.prog.info? 182).isSome = true := by kernel_rfl
@[simp] theorem isund_182 : (Tryz.prog.underlying 182).isSome = true := by kernel_rfl
@[simp] theorem cellsOf_201 : Tryz.prog.cellsOf 201 = 1 := by kernel_rfl
@[simp] theorem bytesOf_201 : Tryz.prog.bytesOf 201 = 0 := by kernel_rfl
@[simp] theorem slel_201 : slel Tryz.prog 201 = none := by kernel_rfl
@[simp] theorem isAggB_201 : isAggB Tryz.prog 201 = false := by kernel_rfl
@[simp] theorem tOk_201 : tOk Tryz.prog 201 = true := by kernel_rfl
@[simp] theorem arrOf_201 : arrOf Tryz.prog 201 = none := by kernel_rfl
@[simp] theorem strB_201 : strB Tryz.prog 201 = false := by kernel_rfl
@[simp] theorem bolB_201 : bolB Tryz.prog 201 = false := by kernel_rfl
@[simp] theorem mapB_201 : mapB Tryz.prog 201 = false := by kernel_rfl
@[simp] theorem intK_201 : intK Tryz.prog 201 = none := by kernel_rfl
@[simp] theorem zrow_201 : zrow Tryz.prog 201 = none := by kernel_rfl
@[simp] theorem bldOk_201 : bldOk Tryz.prog 201 = false := by kernel_rfl
@[simp] theorem tcs_201 : tcs Tryz.prog 201 = [201] := by kernel_rfl
@[simp] theorem srcT_201 : srcT Tryz.prog 201 = false := by kernel_rfl
@[simp] theorem zok_201 : zok Tryz.prog 201 = true := by kernel_rfl
@[simp] theorem flds_201 : flds Tryz.prog 201 = [] := by kernel_rfl
@[simp] theorem zeros_201 : zeros Tryz.prog 201 = some [Value.tuple { toList := [Value.agg { toList := [Value.int IntKind.i64 0, Value.slice none 0 0] }, Value.int IntKind.i64 0] }] := by kernel_rfl
@[simp] theorem isinfo_201 : (Tryz.prog.info? 201).isSome = true := by kernel_rfl
@[simp] theorem isund_201 : (Tryz.prog.underlying 201).isSome = true := by kernel_rfl
@[simp] theorem cellsOf_209 : Tryz.prog.cellsOf 209 = 1 := by kernel_rfl
@[simp] theorem bytesOf_209 : Tryz.prog.bytesOf 209 = 8 := by kernel_rfl
@[simp] theorem slel_209 : slel Tryz.prog 209 = none := by kernel_rfl
@[simp] theorem isAggB_209 : isAggB Tryz.prog 209 = false := by kernel_rfl
@[simp] theorem tOk_209 : tOk Tryz.prog 209 = true := by kernel_rfl
@[simp] theorem arrOf_209 : arrOf Tryz.prog 209 = none := by kernel_rfl
@[simp] theorem strB_209 : strB Tryz.prog 209 = false := by kernel_rfl
@[simp] theorem bolB_209 : bolB Tryz.prog 209 = false := by kernel_rfl
@[simp] theorem mapB_209 : mapB Tryz.prog 209 = false := by kernel_rfl
@[simp] theorem intK_209 : intK Tryz.prog 209 = none := by kernel_rfl
@[simp] theorem zrow_209 : zrow Tryz.prog 209 = some [AV.sc Value.nilFunc] := by kernel_rfl
@[simp] theorem bldOk_209 : bldOk Tryz.prog 209 = false := by kernel_rfl
@[simp] theorem tcs_209 : tcs Tryz.prog 209 = [209] := by kernel_rfl
@[simp] theorem srcT_209 : srcT Tryz.prog 209 = false := by kernel_rfl
@[simp] theorem zok_209 : zok Tryz.prog 209 = true := by kernel_rfl
@[simp] theorem flds_209 : flds Tryz.prog 209 = [] := by kernel_rfl
@[simp] theorem zeros_209 : zeros Tryz.prog 209 = some [Value.nilFunc] := by kernel_rfl
@[simp] theorem isinfo_209 : (Tryz.prog.info? 209).isSome = true := by kernel_rfl
@[simp] theorem isund_209 : (Tryz.prog.underlying 209).isSome = true := by kernel_rfl
@[simp] theorem cellsOf_210 : Tryz.prog.cellsOf 210 = 1 := by kernel_rfl
@[simp] theorem bytesOf_210 : Tryz.prog.bytesOf 210 = 24 := by kernel_rfl
@[simp] theorem slel_210 : slel Tryz.prog 210 = some 220 := by kernel_rfl
@[simp] theorem isAggB_210 : isAggB Tryz.prog 210 = false := by kernel_rfl
@[simp] theorem tOk_210 : tOk Tryz.prog 210 = true := by kernel_rfl
@[simp] theorem arrOf_210 : arrOf Tryz.prog 210 = none := by kernel_rfl
@[simp] theorem strB_210 : strB Tryz.prog 210 = false := by kernel_rfl
@[simp] theorem bolB_210 : bolB Tryz.prog 210 = false := by kernel_rfl
@[simp] theorem mapB_210 : mapB Tryz.prog 210 = false := by kernel_rfl
@[simp] theorem intK_210 : intK Tryz.prog 210 = none := by kernel_rfl
@[simp] theorem zrow_210 : zrow Tryz.prog 210 = some [AV.sl false 4 []] := by kernel_rfl
@[simp] theorem bldOk_210 : bldOk Tryz.prog 210 = false := by kernel_rfl
@[simp] theorem tcs_210 : tcs Tryz.prog 210 = [210] := by kernel_rfl
@[simp] theorem srcT_210 : srcT Tryz.prog 210 = true := by kernel_rfl
@[simp] theorem zok_210 : zok Tryz.prog 210 = true := by kernel_rfl
@[simp] theorem flds_210 : flds Tryz.prog 210 = [] := by kernel_rfl
@[simp] theorem zeros_210 : zeros Tryz.prog 210 = some [Value.slice none 0 0] := by kernel_rfl
@[simp] theorem isinfo_210 : (Tryz.prog.info? 210).isSome = true := by kernel_rfl
@[simp] theorem isund_210 : (Tryz.prog.underlying 210).isSome = true := by kernel_rfl
@[simp] theorem cellsOf_211 : Tryz.prog.cellsOf 211 = 1 := by kernel_rfl
@[simp] theorem bytesOf_211 : Tryz.prog.bytesOf 211 = 0 := by kernel_rfl
@[simp] theorem slel_211 : slel Tryz.prog 211 = none := by kernel_rfl
@[simp] theorem isAggB_211 : isAggB Tryz.prog 211 = false := by kernel_rfl
@[simp] theorem tOk_211 : tOk Tryz.prog 211 = true := by kernel_rfl
@[simp] theorem arrOf_211 : arrOf Tryz.prog 211 = none := by kernel_rfl
@[simp] theorem strB_211 : strB Tryz.prog 211 = false := by kernel_rfl
@[simp] theorem bolB_211 : bolB Tryz.prog 211 = false := by kernel_rfl
@[simp] theorem mapB_211 : mapB Tryz.prog 211 = false := by kernel_rfl
@[simp] theorem intK_211 : intK Tryz.prog 211 = none := by kernel_rfl
@[simp] theorem zrow_211 : zrow Tryz.prog 211 = none := by kernel_rfl
@[simp] theorem bldOk_211 : bldOk Tryz.prog 211 = false := by kernel_rfl
@[simp] theorem tcs_211 : tcs Tryz.prog 211 = [211] := by kernel_rfl
@[simp] theorem srcT_211 : srcT Tryz.prog 211 = false := by kernel_rfl
@[simp] theorem zok_211 : zok Tryz.prog 211 = true := by kernel_rfl
@[simp] theorem flds_211 : flds Tryz.prog 211 = [] := by kernel_rfl
@[simp] theorem zeros_211 : zeros Tryz.prog 211 = some [Value.tuple { toList := [Value.slice none 0 0, Value.int IntKind.i64 0, Value.int IntKind.i64 0] }] := by kernel_rfl
@[simp] theorem isinfo_211 : (Tryz.prog.info? 211).isSome = true := by kernel_rfl
@[simp] theorem isund_211 : (Tryz.prog.underlying 211).isSome = true := by kernel_rfl
@[simp] theorem cellsOf_216 : Tryz.prog.cellsOf 216 = 3 := by kernel_rfl
@[simp] theorem bytesOf_216 : Tryz.prog.bytesOf 216 = 40 := by kernel_rfl
@[simp] theorem slel_216 : slel Tryz.prog 216 = none := by kernel_rfl
@[simp] theorem isAggB_216 : isAggB Tryz.prog 216 = true := by kernel_rfl
@[simp] theorem tOk_216 : tOk Tryz.prog 216 = true := by kernel_rfl
@[simp] theorem arrOf_216 : arrOf Tryz.prog 216 = none := by kernel_rfl
@[simp] theorem strB_216 : strB Tryz.prog 216 = false := by kernel_rfl
@[simp] theorem bolB_216 : bolB Tryz.prog 216 = false := by kernel_rfl
@[simp] theorem mapB_216 : mapB Tryz.prog 216 = false := by kernel_rfl
@[simp] theorem intK_216 : intK Tryz.prog 216 = none := by kernel_rfl
@[simp] theorem zrow_216 : zrow Tryz.prog 216 = some [AV.sl false 4 [], AV.sc (Value.int IntKind.i64 0), AV.sc (Value.int IntKind.i64 0)] := by kernel_rfl
@[simp] theorem bldOk_216 : bldOk Tryz.prog 216 = true := by kernel_rfl
@[simp] theorem tcs_216 : tcs Tryz.prog 216 = [210, 3, 3] := by kernel_rfl
@[simp] theorem srcT_216 : srcT Tryz.prog 216 = false := by kernel_rfl
@[simp] theorem zok_216 : zok Tryz.prog 216 = true := by kernel_rfl
@[simp] theorem flds_216 : flds Tryz.prog 216 = [(0, 1, 210), (1, 1, 3), (2, 1, 3)] := by kernel_rfl
@[simp] theorem zeros_216 : zeros Tryz.prog 216 = some [Value.slice none 0 0, Value.int IntKind.i64 0, Value.int IntKind.i64 0] := by kernel_rfl
@[simp] theorem isinfo_216 : (Tryz.prog.info? 216).isSome = true := by kernel_rfl
@[simp] theorem isund_216 : (Tryz.prog.underlying 216).isSome = true := by kernel_rfl
@[simp] theorem cellsOf_220 : Tryz.prog.cellsOf 220 = 4 := by kernel_rfl
@[simp] theorem bytesOf_220 : Tryz.prog.bytesOf 220 = 40 := by kernel_rfl
@[simp] theorem slel_220 : slel Tryz.prog 220 = none := by kernel_rfl
@[simp] theorem isAggB_220 : isAggB Tryz.prog 220 = true := by kernel_rfl
@[simp] theorem tOk_220 : tOk Tryz.prog 220 = true := by kernel_rfl
@[simp] theorem arrOf_220 : arrOf Tryz.prog 220 = none := by kernel_rfl
@[simp] theorem strB_220 : strB Tryz.prog 220 = false := by kernel_rfl
@[simp] theorem bolB_220 : bolB Tryz.prog 220 = false := by kernel_rfl
@[simp] theorem mapB_220 : mapB Tryz.prog 220 = false := by kernel_rfl
@[simp] theorem intK_220 : intK Tryz.prog 220 = none := by kernel_rfl
@[simp] theorem zrow_220 : zrow Tryz.prog 220 = some [AV.sc (Value.int IntKind.i64 0), AV.sc (Value.string { data := { toList := [] } }), AV.sc (Value.int IntKind.u32 0), AV.sc (Value.int IntKind.i64 0)] := by kernel_rfl
@[simp] theorem bldOk_220 : bldOk Tryz.prog 220 = true := by kernel_rfl
@[simp] theorem tcs_220 : tcs Tryz.prog 220 = [3, 9, 32, 3] := by kernel_rfl
@[simp] theorem srcT_220 : srcT Tryz.prog 220 = false := by kernel_rfl
@[simp] theorem zok_220 : zok Tryz.prog 220 = true := by kernel_rfl
@[simp] theorem flds_220 : flds Tryz.prog 220 = [(0, 1, 3), (1, 1, 9), (2, 1, 32), (3, 1, 3)] := by kernel_rfl
@[simp] theorem zeros_220 : zeros Tryz.prog 220 = some [Value.int IntKind.i64 0, Value.string { data := { toList := [] } }, Value.int IntKind.u32 0, Value.int IntKind.i64 0] := by kernel_rfl
@[simp] theorem isinfo_220 : (Tryz.prog.info? 220).isSome = true := by kernel_rfl
@[simp] theorem isund_220 : (Tryz.prog.underlying 220).isSome = true := by kernel_rfl
@[simp] theorem cellsOf_224 : Tryz.prog.cellsOf 224 = 2 := by kernel_rfl
@[simp] theorem bytesOf_224 : Tryz.prog.bytesOf 224 = 24 := by kernel_rfl
@[simp] theorem slel_224 : slel Tryz.prog 224 = none := by kernel_rfl
@[simp] theorem isAggB_224 : isAggB Tryz.prog 224 = true := by kernel_rfl
@[simp] theorem tOk_224 : tOk Tryz.prog 224 = true := by kernel_rfl
@[simp] theorem arrOf_224 : arrOf Tryz.prog 224 = none := by kernel_rfl
@[simp] theorem strB_224 : strB Tryz.prog 224 = false := by kernel_rfl
@[simp] theorem bolB_224 : bolB Tryz.prog 224 = false := by kernel_rfl
@[simp] theorem mapB_224 : mapB Tryz.prog 224 = false := by kernel_rfl
@[simp] theorem intK_224 : intK Tryz.prog 224 = none := by kernel_rfl
@[simp] theorem zrow_224 : zrow Tryz.prog 224 = some [AV.sc (Value.string { data := { toList := [] } }), AV.sc (Value.int IntKind.i64 0)] := by kernel_rfl
@[simp] theorem bldOk_224 : bldOk Tryz.prog 224 = true := by kernel_rfl
@[simp] theorem tcs_224 : tcs Tryz.prog 224 = [9, 3] := by kernel_rfl
@[simp] theorem srcT_224 : srcT Tryz.prog 224 = false := by kernel_rfl
@[simp] theorem zok_224 : zok Tryz.prog 224 = true := by kernel_rfl
@[simp] theorem flds_224 : flds Tryz.prog 224 = [(0, 1, 9), (1, 1, 3)] := by kernel_rfl
@[simp] theorem zeros_224 : zeros Tryz.prog 224 = some [Value.string { data := { toList := [] } }, Value.int IntKind.i64 0] := by kernel_rfl
@[simp] theorem isinfo_224 : (Tryz.prog.info? 224).isSome = true := by kernel_rfl
@[simp] theorem isund_224 : (Tryz.prog.underlying 224).isSome = true := by kernel_rfl
@[simp] theorem cellsOf_225 : Tryz.prog.cellsOf 225 = 1 := by kernel_rfl
@[simp] theorem bytesOf_225 : Tryz.prog.bytesOf 225 = 24 := by kernel_rfl
@[simp] theorem slel_225 : slel Tryz.prog 225 = some 306 := by kernel_rfl
@[simp] theorem isAggB_225 : isAggB Tryz.prog 225 = false := by kernel_rfl
@[simp] theorem tOk_225 : tOk Tryz.prog 225 = true := by kernel_rfl
@[simp] theorem arrOf_225 : arrOf Tryz.prog 225 = none := by kernel_rfl
@[simp] theorem strB_225 : strB Tryz.prog 225 = false := by kernel_rfl
@[simp] theorem bolB_225 : bolB Tryz.prog 225 = false := by kernel_rfl
@[simp] theorem mapB_225 : mapB Tryz.prog 225 = false := by kernel_rfl
@[simp] theorem intK_225 : intK Tryz.prog 225 = none := by kernel_rfl
@[simp] theorem zrow_225 : zrow Tryz.prog 225 = some [AV.sl false 5 []] := by kernel_rfl
@[simp] theorem bldOk_225 : bldOk Tryz.prog 225 = false := by kernel_rfl
@[simp] theorem tcs_225 : tcs Tryz.prog 225 = [225] := by kernel_rfl
@[simp] theorem srcT_225 : srcT Tryz.prog 225 = true := by kernel_rfl
@[simp] theorem zok_225 : zok Tryz.prog 225 = true := by kernel_rfl
@[simp] theorem flds_225 : flds Tryz.prog 225 = [] := by kernel_rfl
@[simp] theorem zeros_225 : zeros Tryz.prog 225 = some [Value.slice none 0 0] := by kernel_rfl
@[simp] theorem isinfo_225 : (Tryz.prog.info? 225).isSome = true := by kernel_rfl
@[simp] theorem isund_225 : (Tryz.prog.underlying 225).isSome = true := by kernel_rfl
@[simp] theorem cellsOf_227 : Tryz.prog.cellsOf 227 = 5 := by kernel_rfl
@[simp] theorem bytesOf_227 : Tryz.prog.bytesOf 227 = 96 := by kernel_rfl
@[simp] theorem slel_227 : slel Tryz.prog 227 = none := by kernel_rfl
@[simp] theorem isAggB_227 : isAggB Tryz.prog 227 = true := by kernel_rfl
@[simp] theorem tOk_227 : tOk Tryz.prog 227 = true := by kernel_rfl
@[simp] theorem arrOf_227 : arrOf Tryz.prog 227 = none := by kernel_rfl
@[simp] theorem strB_227 : strB Tryz.prog 227 = false := by kernel_rfl
@[simp] theorem bolB_227 : bolB Tryz.prog 227 = false := by kernel_rfl
@[simp] theorem mapB_227 : mapB Tryz.prog 227 = false := by kernel_rfl
@[simp] theorem intK_227 : intK Tryz.prog 227 = none := by kernel_rfl
@[simp] theorem zrow_227 : zrow Tryz.prog 227 = some [AV.sc (Value.string { data := { toList := [] } }), AV.sl false 1 [], AV.sl false 1 [], AV.sc (Value.bool false), AV.sl false 5 []] := by kernel_rfl
@[simp] theorem bldOk_227 : bldOk Tryz.prog 227 = true := by kernel_rfl
@[simp] theorem tcs_227 : tcs Tryz.prog 227 = [9, 76, 76, 4, 225] := by kernel_rfl
@[simp] theorem srcT_227 : srcT Tryz.prog 227 = false := by kernel_rfl
@[simp] theorem zok_227 : zok Tryz.prog 227 = true := by kernel_rfl
@[simp] theorem flds_227 : flds Tryz.prog 227 = [(0, 1, 9), (1, 1, 76), (2, 1, 76), (3, 1, 4), (4, 1, 225)] := by kernel_rfl
@[simp] theorem zeros_227 : zeros Tryz.prog 227 = some [Value.string { data := { toList := [] } }, Value.slice none 0 0, Value.slice none 0 0, Value.bool false, Value.slice none 0 0] := by kernel_rfl
@[simp] theorem isinfo_227 : (Tryz.prog.info? 227).isSome = true := by kernel_rfl
@[simp] theorem isund_227 : (Tryz.prog.underlying 227).isSome = true := by kernel_rfl
@[simp] theorem cellsOf_239 : Tryz.prog.cellsOf 239 = 2 := by kernel_rfl
@[simp] theorem bytesOf_239 : Tryz.prog.bytesOf 239 = 32 := by kernel_rfl
@[simp] theorem slel_239 : slel Tryz.prog 239 = none := by kernel_rfl
@[simp] theorem isAggB_239 : isAggB Tryz.prog 239 = true := by kernel_rfl
@[simp] theorem tOk_239 : tOk Tryz.prog 239 = true := by kernel_rfl
@[simp] theorem arrOf_239 : arrOf Tryz.prog 239 = none := by kernel_rfl
@[simp] theorem strB_239 : strB Tryz.prog 239 = false := by kernel_rfl
@[simp] theorem bolB_239 : bolB Tryz.prog 239 = false := by kernel_rfl
@[simp] theorem mapB_239 : mapB Tryz.prog 239 = false := by kernel_rfl
@[simp] theorem intK_239 : intK Tryz.prog 239 = none := by kernel_rfl
@[simp] theorem zrow_239 : zrow Tryz.prog 239 = some [AV.sc (Value.int IntKind.i64 0), AV.sl false 5 []] := by kernel_rfl
@[simp] theorem bldOk_239 : bldOk Tryz.prog 239 = true := by kernel_rfl
@[simp] theorem tcs_239 : tcs Tryz.prog 239 = [3, 237] := by kernel_rfl
@[simp] theorem srcT_239 : srcT Tryz.prog 239 = false := by kernel_rfl
@[simp] theorem zok_239 : zok Tryz.prog 239 = true := by kernel_rfl
@[simp] theorem flds_239 : flds Tryz.prog 239 = [(0, 1, 3), (1, 1, 237)] := by kernel_rfl
@[simp] theorem zeros_239 : zeros Tryz.prog 239 = some [Value.int IntKind.i64 0, Value.slice none 0 0] := by kernel_rfl
@[simp] theorem isinfo_239 : (Tryz.prog.info? 239).isSome = true := by kernel_rfl
@[simp] theorem isund_239 : (Tryz.prog.underlying 239).isSome = true := by kernel_rfl
@[simp] theorem cellsOf_144 : Tryz.prog.cellsOf 144 = 1 := by kernel_rfl
@[simp] theorem bytesOf_144 : Tryz.prog.bytesOf 144 = 24 := by kernel_rfl
@[simp] theorem slel_144 : slel Tryz.prog 144 = some 141 := by kernel_rfl
@[simp] theorem isAggB_144 : isAggB Tryz.prog 144 = false := by kernel_rfl
@[simp] theorem tOk_144 : tOk Tryz.prog 144 = true := by kernel_rfl
@[simp] theorem arrOf_144 : arrOf Tryz.prog 144 = none := by kernel_rfl
@[simp] theorem strB_144 : strB Tryz.prog 144 = false := by kernel_rfl
@[simp] theorem bolB_144 : bolB Tryz.prog 144 = false := by kernel_rfl
@[simp] theorem mapB_144 : mapB Tryz.prog 144 = false := by kernel_rfl
@[simp] theorem intK_144 : intK Tryz.prog 144 = none := by kernel_rfl
@[simp] theorem zrow_144 : zrow Tryz.prog 144 = some [AV.sl false 1 []] := by kernel_rfl
@[simp] theorem bldOk_144 : bldOk Tryz.prog 144 = false := by kernel_rfl
@[simp] theorem tcs_144 : tcs Tryz.prog 144 = [144] := by kernel_rfl
@[simp] theorem srcT_144 : srcT Tryz.prog 144 = true := by kernel_rfl
@[simp] theorem zok_144 : zok Tryz.prog 144 = true := by kernel_rfl
@[simp] theorem flds_144 : flds Tryz.prog 144 = [] := by kernel_rfl
@[simp] theorem zeros_144 : zeros Tryz.prog 144 = some [Value.slice none 0 0] := by kernel_rfl
@[simp] theorem isinfo_144 : (Tryz.prog.info? 144).isSome = true := by kernel_rfl
@[simp] theorem isund_144 : (Tryz.prog.underlying 144).isSome = true := by kernel_rfl
@[simp] theorem cellsOf_173 : Tryz.prog.cellsOf 173 = 1 := by kernel_rfl
@[simp] theorem bytesOf_173 : Tryz.prog.bytesOf 173 = 24 := by kernel_rfl
@[simp] theorem slel_173 : slel Tryz.prog 173 = some 283 := by kernel_rfl
@[simp] theorem isAggB_173 : isAggB Tryz.prog 173 = false := by kernel_rfl
@[simp] theorem tOk_173 : tOk Tryz.prog 173 = true := by kernel_rfl
@[simp] theorem arrOf_173 : arrOf Tryz.prog 173 = none := by kernel_rfl
@[simp] theorem strB_173 : strB Tryz.prog 173 = false := by kernel_rfl
@[simp] theorem bolB_173 : bolB Tryz.prog 173 = false := by kernel_rfl
@[simp] theorem mapB_173 : mapB Tryz.prog 173 = false := by kernel_rfl
@[simp] theorem intK_173 : intK Tryz.prog 173 = none := by kernel_rfl
@[simp] theorem zrow_173 : zrow Tryz.prog 173 = some [AV.sl false 5 []] := by kernel_rfl
@[simp] theorem bldOk_173 : bldOk Tryz.prog 173 = false := by kernel_rfl
@[simp] theorem tcs_173 : tcs Tryz.prog 173 = [173] := by kernel_rfl
@[simp] theorem srcT_173 : srcT Tryz.prog 173 = true := by kernel_rfl
@[simp] theorem zok_173 : zok Tryz.prog 173 = true := by kernel_rfl
@[simp] theorem flds_173 : flds Tryz.prog 173 = [] := by kernel_rfl
@[simp] theorem zeros_173 : zeros Tryz.prog 173 = some [Value.slice none 0 0] := by kernel_rfl
@[simp] theorem isinfo_173 : (Tryz.prog.info? 173).isSome = true := by kernel_rfl
@[simp] theorem isund_173 : (Tryz.prog.underlying 173).isSome = true := by kernel_rfl
@[simp] theorem cellsOf_237 : Tryz.prog.cellsOf 237 = 1 := by kernel_rfl
@[simp] theorem bytesOf_237 : Tryz.prog.bytesOf 237 = 24 := by kernel_rfl
@[simp] theorem slel_237 : slel Tryz.prog 237 = some 421 := by kernel_rfl
@[simp] theorem isAggB_237 : isAggB Tryz.prog 237 = false := by kernel_rfl
@[simp] theorem tOk_237 : tOk Tryz.prog 237 = true := by kernel_rfl
@[simp] theorem arrOf_237 : arrOf Tryz.prog 237 = none := by kernel_rfl
@[simp] theorem strB_237 : strB Tryz.prog 237 = false := by kernel_rfl
@[simp] theorem bolB_237 : bolB Tryz.prog 237 = false := by kernel_rfl
@[simp] theorem mapB_237 : mapB Tryz.prog 237 = false := by kernel_rfl
@[simp] theorem intK_237 : intK Tryz.prog 237 = none := by kernel_rfl
@[simp] theorem zrow_237 : zrow Tryz.prog 237 = some [AV.sl false 5 []] := by kernel_rfl
@[simp] theorem bldOk_237 : bldOk Tryz.prog 237 = false := by kernel_rfl
@[simp] theorem tcs_237 : tcs Tryz.prog 237 = [237] := by kernel_rfl
@[simp] theorem srcT_237 : srcT Tryz.prog 237 = true := by kernel_rfl
@[simp] theorem zok_237 : zok Tryz.prog 237 = true := by kernel_rfl
@[simp] theorem flds_237 : flds Tryz.prog 237 = [] := by kernel_rfl
@[simp] theorem zeros_237 : zeros Tryz.prog 237 = some [Value.slice none 0 0] := by kernel_rfl
@[simp] theorem isinfo_237 : (Tryz.prog.info? 237).isSome = true := by kernel_rfl
@[simp] theorem isund_237 : (Tryz.prog.underlying 237).isSome = true := by kernel_rfl
@[simp] theorem cellsOf_306 : Tryz.prog.cellsOf 306 = 5 := by kernel_rfl
@[simp] theorem bytesOf_306 : Tryz.prog.bytesOf 306 = 96 := by kernel_rfl
@[simp] theorem slel_306 : slel Tryz.prog 306 = none := by kernel_rfl
@[simp] theorem isAggB_306 : isAggB Tryz.prog 306 = true := by kernel_rfl
@[simp] theorem tOk_306 : tOk Tryz.prog 306 = true := by kernel_rfl
@[simp] theorem arrOf_306 : arrOf Tryz.prog 306 = none := by kernel_rfl
@[simp] theorem strB_306 : strB Tryz.prog 306 = false := by kernel_rfl
@[simp] theorem bolB_306 : bolB Tryz.prog 306 = false := by kernel_rfl
@[simp] theorem mapB_306 : mapB Tryz.prog 306 = false := by kernel_rfl
@[simp] theorem intK_306 : intK Tryz.prog 306 = none := by kernel_rfl
@[simp] theorem zrow_306 : zrow Tryz.prog 306 = some [AV.sc (Value.int IntKind.i64 0), AV.sc (Value.string { data := { toList := [] } }), AV.sl false 5 [], AV.sl false 5 [], AV.sl false 5 []] := by kernel_rfl
@[simp] theorem bldOk_306 : bldOk Tryz.prog 306 = true := by kernel_rfl
@[simp] theorem tcs_306 : tcs Tryz.prog 306 = [3, 9, 304, 225, 225] := by kernel_rfl
@[simp] theorem srcT_306 : srcT Tryz.prog 306 = false := by kernel_rfl
@[simp] theorem zok_306 : zok Tryz.prog 306 = true := by kernel_rfl
@[simp] theorem flds_306 : flds Tryz.prog 306 = [(0, 1, 3), (1, 1, 9), (2, 1, 304), (3, 1, 225), (4, 1, 225)] := by kernel_rfl
@[simp] theorem zeros_306 : zeros Tryz.prog 306 = some [Value.int IntKind.i64 0, Value.string { data := { toList := [] } }, Value.slice none 0 0, Value.slice none 0 0, Value.slice none 0 0] := by kernel_rfl
@[simp] theorem isinfo_306 : (Tryz.prog.info? 306).isSome = true := by kernel_rfl
@[simp] theorem isund_306 : (Tryz.prog.underlying 306).isSome = true := by kernel_rfl
@[simp] theorem cellsOf_141 : Tryz.prog.cellsOf 141 = 1 := by kernel_rfl
@[simp] theorem bytesOf_141 : Tryz.prog.bytesOf 141 = 8 := by kernel_rfl
@[simp] theorem slel_141 : slel Tryz.prog 141 = none := by kernel_rfl
@[simp] theorem isAggB_141 : isAggB Tryz.prog 141 = false := by kernel_rfl
@[simp] theorem tOk_141 : tOk Tryz.prog 141 = true := by kernel_rfl
@[simp] theorem arrOf_141 : arrOf Tryz.prog 141 = none := by kernel_rfl
@[simp] theorem strB_141 : strB Tryz.prog 141 = false := by kernel_rfl
@[simp] theorem bolB_141 : bolB Tryz.prog 141 = false := by kernel_rfl
@[simp] theorem mapB_141 : mapB Tryz.prog 141 = false := by kernel_rfl
@[simp] theorem intK_141 : intK Tryz.prog 141 = none := by kernel_rfl
@[simp] theorem zrow_141 : zrow Tryz.prog 141 = some [AV.sc Value.nilFunc] := by kernel_rfl
@[simp] theorem bldOk_141 : bldOk Tryz.prog 141 = false := by kernel_rfl
@[simp] theorem tcs_141 : tcs Tryz.prog 141 = [141] := by kernel_rfl
@[simp] theorem srcT_141 : srcT Tryz.prog 141 = false := by kernel_rfl
@[simp] theorem zok_141 : zok Tryz.prog 141 = true := by kernel_rfl
@[simp] theorem flds_141 : flds Tryz.prog 141 = [] := by kernel_rfl
@[simp] theorem zeros_141 : zeros Tryz.prog 141 = some [Value.nilFunc] := by kernel_rfl
@[simp] theorem isinfo_141 : (Tryz.prog.info? 141).isSome = true := by kernel_rfl
@[simp] theorem isund_141 : (Tryz.prog.underlying 141).isSome = true := by kernel_rfl
@[simp] theorem cellsOf_283 : Tryz.prog.cellsOf 283 = 5 := by kernel_rfl
@[simp] theorem bytesOf_283 : Tryz.prog.bytesOf 283 = 56 := by kernel_rfl
@[simp] theorem slel_283 : slel Tryz.prog 283 = none := by kernel_rfl
@[simp] theorem isAggB_283 : isAggB Tryz.prog 283 = true := by kernel_rfl
@[simp] theorem tOk_283 : tOk Tryz.prog 283 = true := by kernel_rfl
@[simp] theorem arrOf_283 : arrOf Tryz.prog 283 = none := by kernel_rfl
@[simp] theorem strB_283 : strB Tryz.prog 283 = false := by kernel_rfl
@[simp] theorem bolB_283 : bolB Tryz.prog 283 = false := by kernel_rfl
@[simp] theorem mapB_283 : mapB Tryz.prog 283 = false := by kernel_rfl
@[simp] theorem intK_283 : intK Tryz.prog 283 = none := by kernel_rfl
@[simp] theorem zrow_283 : zrow Tryz.prog 283 = some [AV.sc (Value.int IntKind.i64 0), AV.sc (Value.int IntKind.i64 0), AV.sc (Value.int IntKind.i64 0), AV.sc (Value.bool false), AV.sl false 6 []] := by kernel_rfl
@[simp] theorem bldOk_283 : bldOk Tryz.prog 283 = true := by kernel_rfl
@[simp] theorem tcs_283 : tcs Tryz.prog 283 = [3, 3, 3, 4, 280] := by kernel_rfl
@[simp] theorem srcT_283 : srcT Tryz.prog 283 = false := by kernel_rfl
@[simp] theorem zok_283 : zok Tryz.prog 283 = true := by kernel_rfl
@[simp] theorem flds_283 : flds Tryz.prog 283 = [(0, 1, 3), (1, 1, 3), (2, 1, 3), (3, 1, 4), (4, 1, 280)] := by kernel_rfl
@[simp] theorem zeros_283 : zeros Tryz.prog 283 = some [Value.int IntKind.i64 0, Value.int IntKind.i64 0, Value.int IntKind.i64 0, Value.bool false, Value.slice none 0 0] := by kernel_rfl
@[simp] theorem isinfo_283 : (Tryz.prog.info? 283).isSome = true := by kernel_rfl
@[simp] theorem isund_283 : (Tryz.prog.underlying 283).isSome = true := by kernel_rfl
@[simp] theorem cellsOf_304 : Tryz.prog.cellsOf 304 = 1 := by kernel_rfl
@[simp] theorem bytesOf_304 : Tryz.prog.bytesOf 304 = 24 := by kernel_rfl
@[simp] theorem slel_304 : slel Tryz.prog 304 = some 391 := by kernel_rfl
@[simp] theorem isAggB_304 : isAggB Tryz.prog 304 = false := by kernel_rfl
@[simp] theorem tOk_304 : tOk Tryz.prog 304 = true := by kernel_rfl
@[simp] theorem arrOf_304 : arrOf Tryz.prog 304 = none := by kernel_rfl
@[simp] theorem strB_304 : strB Tryz.prog 304 = false := by kernel_rfl
@[simp] theorem bolB_304 : bolB Tryz.prog 304 = false := by kernel_rfl
@[simp] theorem mapB_304 : mapB Tryz.prog 304 = false := by kernel_rfl
@[simp] theorem intK_304 : intK Tryz.prog 304 = none := by kernel_rfl
@[simp] theorem zrow_304 : zrow Tryz.prog 304 = some [AV.sl false 5 []] := by kernel_rfl
@[simp] theorem bldOk_304 : bldOk Tryz.prog 304 = false := by kernel_rfl
@[simp] theorem tcs_304 : tcs Tryz.prog 304 = [304] := by kernel_rfl
@[simp] theorem srcT_304 : srcT Tryz.prog 304 = true := by kernel_rfl
@[simp] theorem zok_304 : zok Tryz.prog 304 = true := by kernel_rfl
@[simp] theorem flds_304 : flds Tryz.prog 304 = [] := by kernel_rfl
@[simp] theorem zeros_304 : zeros Tryz.prog 304 = some [Value.slice none 0 0] := by kernel_rfl
@[simp] theorem isinfo_304 : (Tryz.prog.info? 304).isSome = true := by kernel_rfl
@[simp] theorem isund_304 : (Tryz.prog.underlying 304).isSome = true := by kernel_rfl
@[simp] theorem cellsOf_421 : Tryz.prog.cellsOf 421 = 5 := by kernel_rfl
@[simp] theorem bytesOf_421 : Tryz.prog.bytesOf 421 = 56 := by kernel_rfl
@[simp] theorem slel_421 : slel Tryz.prog 421 = none := by kernel_rfl
@[simp] theorem isAggB_421 : isAggB Tryz.prog 421 = true := by kernel_rfl
@[simp] theorem tOk_421 : tOk Tryz.prog 421 = true := by kernel_rfl
@[simp] theorem arrOf_421 : arrOf Tryz.prog 421 = none := by kernel_rfl
@[simp] theorem strB_421 : strB Tryz.prog 421 = false := by kernel_rfl
@[simp] theorem bolB_421 : bolB Tryz.prog 421 = false := by kernel_rfl
@[simp] theorem mapB_421 : mapB Tryz.prog 421 = false := by kernel_rfl
@[simp] theorem intK_421 : intK Tryz.prog 421 = none := by kernel_rfl
@[simp] theorem zrow_421 : zrow Tryz.prog 421 = some [AV.sl false 8 [], AV.sc (Value.int IntKind.i64 0), AV.sc (Value.int IntKind.i64 0), AV.sc (Value.int IntKind.i64 0), AV.sc (Value.int IntKind.i64 0)] := by kernel_rfl
@[simp] theorem bldOk_421 : bldOk Tryz.prog 421 = true := by kernel_rfl
@[simp] theorem tcs_421 : tcs Tryz.prog 421 = [419, 3, 3, 3, 3] := by kernel_rfl
@[simp] theorem srcT_421 : srcT Tryz.prog 421 = false := by kernel_rfl
@[simp] theorem zok_421 : zok Tryz.prog 421 = true := by kernel_rfl
@[simp] theorem flds_421 : flds Tryz.prog 421 = [(0, 1, 419), (1, 1, 3), (2, 1, 3), (3, 1, 3), (4, 1, 3)] := by kernel_rfl
@[simp] theorem zeros_421 : zeros Tryz.prog 421 = some [Value.slice none 0 0, Value.int IntKind.i64 0, Value.int IntKind.i64 0, Value.int IntKind.i64 0, Value.int IntKind.i64 0] := by kernel_rfl
@[simp] theorem isinfo_421 : (Tryz.prog.info? 421).isSome = true := by kernel_rfl
@[simp] theorem isund_421 : (Tryz.prog.underlying 421).isSome = true := by kernel_rfl
@[simp] theorem cellsOf_280 : Tryz.prog.cellsOf 280 = 1 := by kernel_rfl
@[simp] theorem bytesOf_280 : Tryz.prog.bytesOf 280 = 24 := by kernel_rfl
@[simp] theorem slel_280 : slel Tryz.prog 280 = some 376 := by kernel_rfl
@[simp] theorem isAggB_280 : isAggB Tryz.prog 280 = false := by kernel_rfl
@[simp] theorem tOk_280 : tOk Tryz.prog 280 = true := by kernel_rfl
@[simp] theorem arrOf_280 : arrOf Tryz.prog 280 = none := by kernel_rfl
@[simp] theorem strB_280 : strB Tryz.prog 280 = false := by kernel_rfl
@[simp] theorem bolB_280 : bolB Tryz.prog 280 = false := by kernel_rfl
@[simp] theorem mapB_280 : mapB Tryz.prog 280 = false := by kernel_rfl
@[simp] theorem intK_280 : intK Tryz.prog 280 = none := by kernel_rfl
@[simp] theorem zrow_280 : zrow Tryz.prog 280 = some [AV.sl false 6 []] := by kernel_rfl
@[simp] theorem bldOk_280 : bldOk Tryz.prog 280 = false := by kernel_rfl
@[simp] theorem tcs_280 : tcs Tryz.prog 280 = [280] := by kernel_rfl
@[simp] theorem srcT_280 : srcT Tryz.prog 280 = true := by kernel_rfl
@[simp] theorem zok_280 : zok Tryz.prog 280 = true := by kernel_rfl
@[simp] theorem flds_280 : flds Tryz.prog 280 = [] := by kernel_rfl
@[simp] theorem zeros_280 : zeros Tryz.prog 280 = some [Value.slice none 0 0] := by kernel_rfl
@[simp] theorem isinfo_280 : (Tryz.prog.info? 280).isSome = true := by kernel_rfl
@[simp] theorem isund_280 : (Tryz.prog.underlying 280).isSome = true := by kernel_rfl
@[simp] theorem cellsOf_284 : Tryz.prog.cellsOf 284 = 1 := by kernel_rfl
@[simp] theorem bytesOf_284 : Tryz.prog.bytesOf 284 = 24 := by kernel_rfl
@[simp] theorem slel_284 : slel Tryz.prog 284 = some 31 := by kernel_rfl
@[simp] theorem isAggB_284 : isAggB Tryz.prog 284 = false := by kernel_rfl
@[simp] theorem tOk_284 : tOk Tryz.prog 284 = true := by kernel_rfl
@[simp] theorem arrOf_284 : arrOf Tryz.prog 284 = none := by kernel_rfl
@[simp] theorem strB_284 : strB Tryz.prog 284 = false := by kernel_rfl
@[simp] theorem bolB_284 : bolB Tryz.prog 284 = false := by kernel_rfl
@[simp] theorem mapB_284 : mapB Tryz.prog 284 = false := by kernel_rfl
@[simp] theorem intK_284 : intK Tryz.prog 284 = none := by kernel_rfl
@[simp] theorem zrow_284 : zrow Tryz.prog 284 = some [AV.sl false 1 []] := by kernel_rfl
@[simp] theorem bldOk_284 : bldOk Tryz.prog 284 = false := by kernel_rfl
@[simp] theorem tcs_284 : tcs Tryz.prog 284 = [284] := by kernel_rfl
@[simp] theorem srcT_284 : srcT Tryz.prog 284 = true := by kernel_rfl
@[simp] theorem zok_284 : zok Tryz.prog 284 = true := by kernel_rfl
@[simp] theorem flds_284 : flds Tryz.prog 284 = [] := by kernel_rfl
@[simp] theorem zeros_284 : zeros Tryz.prog 284 = some [Value.slice none 0 0] := by kernel_rfl
@[simp] theorem isinfo_284 : (Tryz.prog.info? 284).isSome = true := by kernel_rfl
@[simp] theorem isund_284 : (Tryz.prog.underlying 284).isSome = true := by kernel_rfl
@[simp] theorem cellsOf_391 : Tryz.prog.cellsOf 391 = 5 := by kernel_rfl
@[simp] theorem bytesOf_391 : Tryz.prog.bytesOf 391 = 64 := by kernel_rfl
@[simp] theorem slel_391 : slel Tryz.prog 391 = none := by kernel_rfl
@[simp] theorem isAggB_391 : isAggB Tryz.prog 391 = true := by kernel_rfl
@[simp] theorem tOk_391 : tOk Tryz.prog 391 = true := by kernel_rfl
@[simp] theorem arrOf_391 : arrOf Tryz.prog 391 = none := by kernel_rfl
@[simp] theorem strB_391 : strB Tryz.prog 391 = false := by kernel_rfl
@[simp] theorem bolB_391 : bolB Tryz.prog 391 = false := by kernel_rfl
@[simp] theorem mapB_391 : mapB Tryz.prog 391 = false := by kernel_rfl
@[simp] theorem intK_391 : intK Tryz.prog 391 = none := by kernel_rfl
@[simp] theorem zrow_391 : zrow Tryz.prog 391 = some [AV.sc (Value.int IntKind.i64 0), AV.sc (Value.int IntKind.i64 0), AV.sc (Value.int IntKind.u32 0), AV.sc (Value.string { data := { toList := [] } }), AV.sl false 5 []] := by kernel_rfl
@[simp] theorem bldOk_391 : bldOk Tryz.prog 391 = true := by kernel_rfl
@[simp] theorem tcs_391 : tcs Tryz.prog 391 = [3, 3, 32, 9, 304] := by kernel_rfl
@[simp] theorem srcT_391 : srcT Tryz.prog 391 = false := by kernel_rfl
@[simp] theorem zok_391 : zok Tryz.prog 391 = true := by kernel_rfl
@[simp] theorem flds_391 : flds Tryz.prog 391 = [(0, 1, 3), (1, 1, 3), (2, 1, 32), (3, 1, 9), (4, 1, 304)] := by kernel_rfl
@[simp] theorem zeros_391 : zeros Tryz.prog 391 = some [Value.int IntKind.i64 0, Value.int IntKind.i64 0, Value.int IntKind.u32 0, Value.string { data := { toList := [] } }, Value.slice none 0 0] := by kernel_rfl
@[simp] theorem isinfo_391 : (Tryz.prog.info? 391).isSome = true := by kernel_rfl
@[simp] theorem isund_391 : (Tryz.prog.underlying 391).isSome = true := by kernel_rfl
@[simp] theorem cellsOf_419 : Tryz.prog.cellsOf 419 = 1 := by kernel_rfl
@[simp] theorem bytesOf_419 : Tryz.prog.bytesOf 419 = 24 := by kernel_rfl
@[simp] theorem slel_419 : slel Tryz.prog 419 = some 424 := by kernel_rfl
@[simp] theorem isAggB_419 : isAggB Tryz.prog 419 = false := by kernel_rfl
@[simp] theorem tOk_419 : tOk Tryz.prog 419 = true := by kernel_rfl
@[simp] theorem arrOf_419 : arrOf Tryz.prog 419 = none := by kernel_rfl
@[simp] theorem strB_419 : strB Tryz.prog 419 = false := by kernel_rfl
@[simp] theorem bolB_419 : bolB Tryz.prog 419 = false := by kernel_rfl
@[simp] theorem mapB_419 : mapB Tryz.prog 419 = false := by kernel_rfl
@[simp] theorem intK_419 : intK Tryz.prog 419 = none := by kernel_rfl
@[simp] theorem zrow_419 : zrow Tryz.prog 419 = some [AV.sl false 8 []] := by kernel_rfl
@[simp] theorem bldOk_419 : bldOk Tryz.prog 419 = false := by kernel_rfl
@[simp] theorem tcs_419 : tcs Tryz.prog 419 = [419] := by kernel_rfl
@[simp] theorem srcT_419 : srcT Tryz.prog 419 = true := by kernel_rfl
@[simp] theorem zok_419 : zok Tryz.prog 419 = true := by kernel_rfl
@[simp] theorem flds_419 : flds Tryz.prog 419 = [] := by kernel_rfl
@[simp] theorem zeros_419 : zeros Tryz.prog 419 = some [Value.slice none 0 0] := by kernel_rfl
@[simp] theorem isinfo_419 : (Tryz.prog.info? 419).isSome = true := by kernel_rfl
@[simp] theorem isund_419 : (Tryz.prog.underlying 419).isSome = true := by kernel_rfl
@[simp] theorem cellsOf_376 : Tryz.prog.cellsOf 376 = 6 := by kernel_rfl
@[simp] theorem bytesOf_376 : Tryz.prog.bytesOf 376 = 96 := by kernel_rfl
@[simp] theorem slel_376 : slel Tryz.prog 376 = none := by kernel_rfl
@[simp] theorem isAggB_376 : isAggB Tryz.prog 376 = true := by kernel_rfl
@[simp] theorem tOk_376 : tOk Tryz.prog 376 = true := by kernel_rfl
@[simp] theorem arrOf_376 : arrOf Tryz.prog 376 = none := by kernel_rfl
@[simp] theorem strB_376 : strB Tryz.prog 376 = false := by kernel_rfl
@[simp] theorem bolB_376 : bolB Tryz.prog 376 = false := by kernel_rfl
@[simp] theorem mapB_376 : mapB Tryz.prog 376 = false := by kernel_rfl
@[simp] theorem intK_376 : intK Tryz.prog 376 = none := by kernel_rfl
@[simp] theorem zrow_376 : zrow Tryz.prog 376 = some [AV.sc (Value.int IntKind.i64 0), AV.sc (Value.int IntKind.i64 0), AV.sc (Value.int IntKind.i64 0), AV.sl false 6 [], AV.sl false 6 [], AV.sl false 6 []] := by kernel_rfl
@[simp] theorem bldOk_376 : bldOk Tryz.prog 376 = true := by kernel_rfl
@[simp] theorem tcs_376 : tcs Tryz.prog 376 = [3, 3, 3, 373, 280, 280] := by kernel_rfl
@[simp] theorem srcT_376 : srcT Tryz.prog 376 = false := by kernel_rfl
@[simp] theorem zok_376 : zok Tryz.prog 376 = true := by kernel_rfl
@[simp] theorem flds_376 : flds Tryz.prog 376 = [(0, 1, 3), (1, 1, 3), (2, 1, 3), (3, 1, 373), (4, 1, 280), (5, 1, 280)] := by kernel_rfl
@[simp] theorem zeros_376 : zeros Tryz.prog 376 = some [Value.int IntKind.i64 0, Value.int IntKind.i64 0, Value.int IntKind.i64 0, Value.slice none 0 0, Value.slice none 0 0, Value.slice none 0 0] := by kernel_rfl
@[simp] theorem isinfo_376 : (Tryz.prog.info? 376).isSome = true := by kernel_rfl
@[simp] theorem isund_376 : (Tryz.prog.underlying 376).isSome = true := by kernel_rfl
@[simp] theorem cellsOf_424 : Tryz.prog.cellsOf 424 = 8 := by kernel_rfl
@[simp] theorem bytesOf_424 : Tryz.prog.bytesOf 424 = 64 := by kernel_rfl
@[simp] theorem slel_424 : slel Tryz.prog 424 = none := by kernel_rfl
@[simp] theorem isAggB_424 : isAggB Tryz.prog 424 = true := by kernel_rfl
@[simp] theorem tOk_424 : tOk Tryz.prog 424 = true := by kernel_rfl
@[simp] theorem arrOf_424 : arrOf Tryz.prog 424 = none := by kernel_rfl
@[simp] theorem strB_424 : strB Tryz.prog 424 = false := by kernel_rfl
@[simp] theorem bolB_424 : bolB Tryz.prog 424 = false := by kernel_rfl
@[simp] theorem mapB_424 : mapB Tryz.prog 424 = false := by kernel_rfl
@[simp] theorem intK_424 : intK Tryz.prog 424 = none := by kernel_rfl
@[simp] theorem zrow_424 : zrow Tryz.prog 424 = some [AV.sc (Value.int IntKind.i64 0), AV.sc (Value.int IntKind.i64 0), AV.sc (Value.int IntKind.i64 0), AV.sc (Value.int IntKind.i64 0), AV.sc (Value.int IntKind.i64 0), AV.sc (Value.int IntKind.i64 0), AV.sc (Value.int IntKind.i64 0), AV.sc (Value.int IntKind.u32 0)] := by kernel_rfl
@[simp] theorem bldOk_424 : bldOk Tryz.prog 424 = true := by kernel_rfl
@[simp] theorem tcs_424 : tcs Tryz.prog 424 = [3, 3, 3, 3, 3, 3, 3, 32] := by kernel_rfl
@[simp] theorem srcT_424 : srcT Tryz.prog 424 = false := by kernel_rfl
@[simp] theorem zok_424 : zok Tryz.prog 424 = true := by kernel_rfl
@[simp] theorem flds_424 : flds Tryz.prog 424 = [(0, 1, 3), (1, 1, 3), (2, 1, 3), (3, 1, 3), (4, 1, 3), (5, 1, 3), (6, 1, 3), (7, 1, 32)] := by kernel_rfl
@[simp] theorem zeros_424 : zeros Tryz.prog 424 = some [Value.int IntKind.i64 0, Value.int IntKind.i64 0, Value.int IntKind.i64 0, Value.int IntKind.i64 0, Value.int IntKind.i64 0, Value.int IntKind.i64 0, Value.int IntKind.i64 0, Value.int IntKind.u32 0] := by kernel_rfl
@[simp] theorem isinfo_424 : (Tryz.prog.info? 424).isSome = true := by kernel_rfl
@[simp] theorem isund_424 : (Tryz.prog.underlying 424).isSome = true := by kernel_rfl
end Go.Proofs.YtaeeffddinppeaaGreatDoor
