/- Facts of the machine of the program. -/
import Derived.KernelRfl
import Derived.Test.YtaeeffddinppeaaGreatDoorProg
import Derived.Test.YtaeeffddinppeaaGreatDoorG3
set_option linter.unusedSimpArgs false
set_option linter.unusedVariables false
namespace Go.Proofs.YtaeeffddinppeaaGreatDoor
open Go Go.Ab
@[simp] theorem okFn_132 : okFn Tryz.prog 132 = true := by kernel_rfl
@[simp] theorem ptys_132 : ptys Tryz.prog 132 = [119] := by kernel_rfl
@[simp] theorem rtys_132 : rtys Tryz.prog 132 = [4] := by kernel_rfl
@[simp] theorem flatF_132 : flatF Tryz.prog 132 = true := by kernel_rfl
@[simp] theorem bodyOk_132 : bodyOk Tryz.f132 = true := by kernel_rfl
@[simp] theorem okFn_155 : okFn Tryz.prog 155 = true := by kernel_rfl
@[simp] theorem ptys_155 : ptys Tryz.prog 155 = [28, 9, 135, 3] := by kernel_rfl
@[simp] theorem rtys_155 : rtys Tryz.prog 155 = [135] := by kernel_rfl
@[simp] theorem flatF_155 : flatF Tryz.prog 155 = false := by kernel_rfl
@[simp] theorem bodyOk_155 : bodyOk Tryz.f155 = true := by kernel_rfl
@[simp] theorem okFn_156 : okFn Tryz.prog 156 = true := by kernel_rfl
@[simp] theorem ptys_156 : ptys Tryz.prog 156 = [28] := by kernel_rfl
@[simp] theorem rtys_156 : rtys Tryz.prog 156 = [135] := by kernel_rfl
@[simp] theorem flatF_156 : flatF Tryz.prog 156 = false := by kernel_rfl
@[simp] theorem bodyOk_156 : bodyOk Tryz.f156 = true := by kernel_rfl
@[simp] theorem okFn_175 : okFn Tryz.prog 175 = true := by kernel_rfl
@[simp] theorem ptys_175 : ptys Tryz.prog 175 = [3] := by kernel_rfl
@[simp] theorem rtys_175 : rtys Tryz.prog 175 = [4] := by kernel_rfl
@[simp] theorem flatF_175 : flatF Tryz.prog 175 = true := by kernel_rfl
@[simp] theorem bodyOk_175 : bodyOk Tryz.f175 = true := by kernel_rfl
@[simp] theorem okFn_176 : okFn Tryz.prog 176 = true := by kernel_rfl
@[simp] theorem ptys_176 : ptys Tryz.prog 176 = [3] := by kernel_rfl
@[simp] theorem rtys_176 : rtys Tryz.prog 176 = [270] := by kernel_rfl
@[simp] theorem flatF_176 : flatF Tryz.prog 176 = true := by kernel_rfl
@[simp] theorem bodyOk_176 : bodyOk Tryz.f176 = true := by kernel_rfl
@[simp] theorem okFn_177 : okFn Tryz.prog 177 = true := by kernel_rfl
@[simp] theorem ptys_177 : ptys Tryz.prog 177 = [3, 3, 4] := by kernel_rfl
@[simp] theorem rtys_177 : rtys Tryz.prog 177 = [4] := by kernel_rfl
@[simp] theorem flatF_177 : flatF Tryz.prog 177 = true := by kernel_rfl
@[simp] theorem bodyOk_177 : bodyOk Tryz.f177 = true := by kernel_rfl
@[simp] theorem okFn_211 : okFn Tryz.prog 211 = true := by kernel_rfl
@[simp] theorem ptys_211 : ptys Tryz.prog 211 = [28, 9, 135] := by kernel_rfl
@[simp] theorem rtys_211 : rtys Tryz.prog 211 = [345] := by kernel_rfl
@[simp] theorem flatF_211 : flatF Tryz.prog 211 = false := by kernel_rfl
@[simp] theorem bodyOk_211 : bodyOk Tryz.f211 = true := by kernel_rfl
@[simp] theorem okFn_212 : okFn Tryz.prog 212 = true := by kernel_rfl
@[simp] theorem ptys_212 : ptys Tryz.prog 212 = [345, 3] := by kernel_rfl
@[simp] theorem rtys_212 : rtys Tryz.prog 212 = [348] := by kernel_rfl
@[simp] theorem flatF_212 : flatF Tryz.prog 212 = false := by kernel_rfl
@[simp] theorem bodyOk_212 : bodyOk Tryz.f212 = true := by kernel_rfl
@[simp] theorem okFn_213 : okFn Tryz.prog 213 = true := by kernel_rfl
@[simp] theorem ptys_213 : ptys Tryz.prog 213 = [345] := by kernel_rfl
@[simp] theorem rtys_213 : rtys Tryz.prog 213 = [135] := by kernel_rfl
@[simp] theorem flatF_213 : flatF Tryz.prog 213 = false := by kernel_rfl
@[simp] theorem bodyOk_213 : bodyOk Tryz.f213 = true := by kernel_rfl
@[simp] theorem okFn_284 : okFn Tryz.prog 284 = true := by kernel_rfl
@[simp] theorem ptys_284 : ptys Tryz.prog 284 = [268] := by kernel_rfl
@[simp] theorem rtys_284 : rtys Tryz.prog 284 = [] := by kernel_rfl
@[simp] theorem flatF_284 : flatF Tryz.prog 284 = true := by kernel_rfl
@[simp] theorem bodyOk_284 : bodyOk Tryz.f284 = true := by kernel_rfl
@[simp] theorem okFn_285 : okFn Tryz.prog 285 = true := by kernel_rfl
@[simp] theorem ptys_285 : ptys Tryz.prog 285 = [345] := by kernel_rfl
@[simp] theorem rtys_285 : rtys Tryz.prog 285 = [4] := by kernel_rfl
@[simp] theorem flatF_285 : flatF Tryz.prog 285 = true := by kernel_rfl
@[simp] theorem bodyOk_285 : bodyOk Tryz.f285 = true := by kernel_rfl
@[simp] theorem okFn_286 : okFn Tryz.prog 286 = true := by kernel_rfl
@[simp] theorem ptys_286 : ptys Tryz.prog 286 = [345] := by kernel_rfl
@[simp] theorem rtys_286 : rtys Tryz.prog 286 = [3] := by kernel_rfl
@[simp] theorem flatF_286 : flatF Tryz.prog 286 = true := by kernel_rfl
@[simp] theorem bodyOk_286 : bodyOk Tryz.f286 = true := by kernel_rfl
@[simp] theorem okFn_287 : okFn Tryz.prog 287 = true := by kernel_rfl
@[simp] theorem ptys_287 : ptys Tryz.prog 287 = [345] := by kernel_rfl
@[simp] theorem rtys_287 : rtys Tryz.prog 287 = [4] := by kernel_rfl
@[simp] theorem flatF_287 : flatF Tryz.prog 287 = true := by kernel_rfl
@[simp] theorem bodyOk_287 : bodyOk Tryz.f287 = true := by kernel_rfl
@[simp] theorem okFn_362 : okFn Tryz.prog 362 = true := by kernel_rfl
@[simp] theorem ptys_362 : ptys Tryz.prog 362 = [32] := by kernel_rfl
@[simp] theorem rtys_362 : rtys Tryz.prog 362 = [119, 24] := by kernel_rfl
@[simp] theorem flatF_362 : flatF Tryz.prog 362 = true := by kernel_rfl
@[simp] theorem bodyOk_362 : bodyOk Tryz.f362 = true := by kernel_rfl
@[simp] theorem okFn_363 : okFn Tryz.prog 363 = true := by kernel_rfl
@[simp] theorem ptys_363 : ptys Tryz.prog 363 = [345, 119] := by kernel_rfl
@[simp] theorem rtys_363 : rtys Tryz.prog 363 = [3] := by kernel_rfl
@[simp] theorem flatF_363 : flatF Tryz.prog 363 = true := by kernel_rfl
@[simp] theorem bodyOk_363 : bodyOk Tryz.f363 = true := by kernel_rfl
@[simp] theorem okFn_399 : okFn Tryz.prog 399 = true := by kernel_rfl
@[simp] theorem ptys_399 : ptys Tryz.prog 399 = [345, 119] := by kernel_rfl
@[simp] theorem rtys_399 : rtys Tryz.prog 399 = [] := by kernel_rfl
@[simp] theorem flatF_399 : flatF Tryz.prog 399 = true := by kernel_rfl
@[simp] theorem bodyOk_399 : bodyOk Tryz.f399 = true := by kernel_rfl
@[simp] theorem okFn_400 : okFn Tryz.prog 400 = true := by kernel_rfl
@[simp] theorem ptys_400 : ptys Tryz.prog 400 = [345, 119] := by kernel_rfl
@[simp] theorem rtys_400 : rtys Tryz.prog 400 = [4] := by kernel_rfl
@[simp] theorem flatF_400 : flatF Tryz.prog 400 = true := by kernel_rfl
@[simp] theorem bodyOk_400 : bodyOk Tryz.f400 = true := by kernel_rfl
@[simp] theorem okFn_401 : okFn Tryz.prog 401 = true := by kernel_rfl
@[simp] theorem ptys_401 : ptys Tryz.prog 401 = [345, 3] := by kernel_rfl
@[simp] theorem rtys_401 : rtys Tryz.prog 401 = [] := by kernel_rfl
@[simp] theorem flatF_401 : flatF Tryz.prog 401 = true := by kernel_rfl
@[simp] theorem bodyOk_401 : bodyOk Tryz.f401 = true := by kernel_rfl
@[simp] theorem okFn_402 : okFn Tryz.prog 402 = true := by kernel_rfl
@[simp] theorem ptys_402 : ptys Tryz.prog 402 = [3, 32, 32] := by kernel_rfl
@[simp] theorem rtys_402 : rtys Tryz.prog 402 = [32, 24] := by kernel_rfl
@[simp] theorem flatF_402 : flatF Tryz.prog 402 = true := by kernel_rfl
@[simp] theorem bodyOk_402 : bodyOk Tryz.f402 = true := by kernel_rfl
@[simp] theorem okFn_413 : okFn Tryz.prog 413 = true := by kernel_rfl
@[simp] theorem ptys_413 : ptys Tryz.prog 413 = [22] := by kernel_rfl
@[simp] theorem rtys_413 : rtys Tryz.prog 413 = [22] := by kernel_rfl
@[simp] theorem flatF_413 : flatF Tryz.prog 413 = false := by kernel_rfl
@[simp] theorem bodyOk_413 : bodyOk Tryz.f413 = true := by kernel_rfl
@[simp] theorem okFn_414 : okFn Tryz.prog 414 = true := by kernel_rfl
@[simp] theorem ptys_414 : ptys Tryz.prog 414 = [3, 32, 32] := by kernel_rfl
@[simp] theorem rtys_414 : rtys Tryz.prog 414 = [32, 24] := by kernel_rfl
@[simp] theorem flatF_414 : flatF Tryz.prog 414 = true := by kernel_rfl
@[simp] theorem bodyOk_414 : bodyOk Tryz.f414 = true := by kernel_rfl
@[simp] theorem okFn_415 : okFn Tryz.prog 415 = true := by kernel_rfl
@[simp] theorem ptys_415 : ptys Tryz.prog 415 = [3, 32, 32] := by kernel_rfl
@[simp] theorem rtys_415 : rtys Tryz.prog 415 = [32] := by kernel_rfl
@[simp] theorem flatF_415 : flatF Tryz.prog 415 = true := by kernel_rfl
@[simp] theorem bodyOk_415 : bodyOk Tryz.f415 = true := by kernel_rfl
@[simp] theorem okFn_416 : okFn Tryz.prog 416 = true := by kernel_rfl
@[simp] theorem ptys_416 : ptys Tryz.prog 416 = [3, 32, 32] := by kernel_rfl
@[simp] theorem rtys_416 : rtys Tryz.prog 416 = [32] := by kernel_rfl
@[simp] theorem flatF_416 : flatF Tryz.prog 416 = true := by kernel_rfl
@[simp] theorem bodyOk_416 : bodyOk Tryz.f416 = true := by kernel_rfl
@[simp] theorem cellsOf_0 : Tryz.prog.cellsOf 0 = 1 := by kernel_rfl
@[simp] theorem bytesOf_0 : Tryz.prog.bytesOf 0 = 0 := by kernel_rfl
@[simp] theorem slel_0 : slel Tryz.prog 0 = none := by kernel_rfl
@[simp] theorem isAggB_0 : isAggB Tryz.prog 0 = false := by kernel_rfl
@[simp] theorem tOk_0 : tOk Tryz.prog 0 = true := by kernel_rfl
@[simp] theorem arrOf_0 : arrOf Tryz.prog 0 = none := by kernel_rfl
@[simp] theorem strB_0 : strB Tryz.prog 0 = false := by kernel_rfl
@[simp] theorem bolB_0 : bolB Tryz.prog 0 = false := by kernel_rfl
@[simp] theorem mapB_0 : mapB Tryz.prog 0 = false := by kernel_rfl
@[simp] theorem intK_0 : intK Tryz.prog 0 = none := by kernel_rfl
@[simp] theorem zrow_0 : zrow Tryz.prog 0 = none := by kernel_rfl
@[simp] theorem bldOk_0 : bldOk Tryz.prog 0 = false := by kernel_rfl
@[simp] theorem tcs_0 : tcs Tryz.prog 0 = [0] := by kernel_rfl
@[simp] theorem srcT_0 : srcT Tryz.prog 0 = false := by kernel_rfl
@[simp] theorem zok_0 : zok Tryz.prog 0 = true := by kernel_rfl
@[simp] theorem flds_0 : flds Tryz.prog 0 = [] := by kernel_rfl
@[simp] theorem zeros_0 : zeros Tryz.prog 0 = some [Value.tuple { toList := [] }] := by kernel_rfl
@[simp] theorem isinfo_0 : (Tryz.prog.info? 0).isSome = true := by kernel_rfl
@[simp] theorem isund_0 : (Tryz.prog.underlying 0).isSome = true := by kernel_rfl
@[simp] theorem cellsOf_2 : Tryz.prog.cellsOf 2 = 1 := by kernel_rfl
@[simp] theorem bytesOf_2 : Tryz.prog.bytesOf 2 = 8 := by kernel_rfl
@[simp] theorem slel_2 : slel Tryz.prog 2 = none := by kernel_rfl
@[simp] theorem isAggB_2 : isAggB Tryz.prog 2 = false := by kernel_rfl
@[simp] theorem tOk_2 : tOk Tryz.prog 2 = true := by kernel_rfl
@[simp] theorem arrOf_2 : arrOf Tryz.prog 2 = none := by kernel_rfl
@[simp] theorem strB_2 : strB Tryz.prog 2 = false := by kernel_rfl
@[simp] theorem bolB_2 : bolB Tryz.prog 2 = false := by kernel_rfl
@[simp] theorem mapB_2 : mapB Tryz.prog 2 = false := by kernel_rfl
@[simp] theorem intK_2 : intK Tryz.prog 2 = some IntKind.i64 := by kernel_rfl
@[simp] theorem zrow_2 : zrow Tryz.prog 2 = some [AV.sc (Value.int IntKind.i64 0)] := by kernel_rfl
@[simp] theorem bldOk_2 : bldOk Tryz.prog 2 = false := by kernel_rfl
@[simp] theorem tcs_2 : tcs Tryz.prog 2 = [2] := by kernel_rfl
@[simp] theorem srcT_2 : srcT Tryz.prog 2 = false := by kernel_rfl
@[simp] theorem zok_2 : zok Tryz.prog 2 = true := by kernel_rfl
@[simp] theorem flds_2 : flds Tryz.prog 2 = [] := by kernel_rfl
@[simp] theorem zeros_2 : zeros Tryz.prog 2 = some [Value.int IntKind.i64 0] := by kernel_rfl
@[simp] theorem isinfo_2 : (Tryz.prog.info? 2).isSome = true := by kernel_rfl
@[simp] theorem isund_2 : (Tryz.prog.underlying 2).isSome = true := by kernel_rfl
@[simp] theorem cellsOf_3 : Tryz.prog.cellsOf 3 = 1 := by kernel_rfl
@[simp] theorem bytesOf_3 : Tryz.prog.bytesOf 3 = 8 := by kernel_rfl
@[simp] theorem slel_3 : slel Tryz.prog 3 = none := by kernel_rfl
@[simp] theorem isAggB_3 : isAggB Tryz.prog 3 = false := by kernel_rfl
@[simp] theorem tOk_3 : tOk Tryz.prog 3 = true := by kernel_rfl
@[simp] theorem arrOf_3 : arrOf Tryz.prog 3 = none := by kernel_rfl
@[simp] theorem strB_3 : strB Tryz.prog 3 = false := by kernel_rfl
@[simp] theorem bolB_3 : bolB Tryz.prog 3 = false := by kernel_rfl
@[simp] theorem mapB_3 : mapB Tryz.prog 3 = false := by kernel_rfl
@[simp] theorem intK_3 : intK Tryz.prog 3 = some IntKind.i64 := by kernel_rfl
@[simp] theorem zrow_3 : zrow Tryz.prog 3 = some [AV.sc (Value.int IntKind.i64 0)] := by kernel_rfl
@[simp] theorem bldOk_3 : bldOk Tryz.prog 3 = false := by kernel_rfl
@[simp] theorem tcs_3 : tcs Tryz.prog 3 = [3] := by kernel_rfl
@[simp] theorem srcT_3 : srcT Tryz.prog 3 = false := by kernel_rfl
@[simp] theorem zok_3 : zok Tryz.prog 3 = true := by kernel_rfl
@[simp] theorem flds_3 : flds Tryz.prog 3 = [] := by kernel_rfl
@[simp] theorem zeros_3 : zeros Tryz.prog 3 = some [Value.int IntKind.i64 0] := by kernel_rfl
@[simp] theorem isinfo_3 : (Tryz.prog.info? 3).isSome = true := by kernel_rfl
@[simp] theorem isund_3 : (Tryz.prog.underlying 3).isSome = true := by kernel_rfl
@[simp] theorem cellsOf_4 : Tryz.prog.cellsOf 4 = 1 := by kernel_rfl
@[simp] theorem bytesOf_4 : Tryz.prog.bytesOf 4 = 1 := by kernel_rfl
@[simp] theorem slel_4 : slel Tryz.prog 4 = none := by kernel_rfl
@[simp] theorem isAggB_4 : isAggB Tryz.prog 4 = false := by kernel_rfl
@[simp] theorem tOk_4 : tOk Tryz.prog 4 = true := by kernel_rfl
@[simp] theorem arrOf_4 : arrOf Tryz.prog 4 = none := by kernel_rfl
@[simp] theorem strB_4 : strB Tryz.prog 4 = false := by kernel_rfl
@[simp] theorem bolB_4 : bolB Tryz.prog 4 = true := by kernel_rfl
@[simp] theorem mapB_4 : mapB Tryz.prog 4 = false := by kernel_rfl
@[simp] theorem intK_4 : intK Tryz.prog 4 = none := by kernel_rfl
@[simp] theorem zrow_4 : zrow Tryz.prog 4 = some [AV.sc (Value.bool false)] := by kernel_rfl
@[simp] theorem bldOk_4 : bldOk Tryz.prog 4 = false := by kernel_rfl
@[simp] theorem tcs_4 : tcs Tryz.prog 4 = [4] := by kernel_rfl
@[simp] theorem srcT_4 : srcT Tryz.prog 4 = false := by kernel_rfl
@[simp] theorem zok_4 : zok Tryz.prog 4 = true := by kernel_rfl
@[simp] theorem flds_4 : flds Tryz.prog 4 = [] := by kernel_rfl
@[simp] theorem zeros_4 : zeros Tryz.prog 4 = some [Value.bool false] := by kernel_rfl
@[simp] theorem isinfo_4 : (Tryz.prog.info? 4).isSome = true := by kernel_rfl
@[simp] theorem isund_4 : (Tryz.prog.underlying 4).isSome = true := by kernel_rfl
@[simp] theorem cellsOf_5 : Tryz.prog.cellsOf 5 = 1 := by kernel_rfl
@[simp] theorem bytesOf_5 : Tryz.prog.bytesOf 5 = 1 := by kernel_rfl
@[simp] theorem slel_5 : slel Tryz.prog 5 = none := by kernel_rfl
@[simp] theorem isAggB_5 : isAggB Tryz.prog 5 = false := by kernel_rfl
@[simp] theorem tOk_5 : tOk Tryz.prog 5 = true := by kernel_rfl
@[simp] theorem arrOf_5 : arrOf Tryz.prog 5 = none := by kernel_rfl
@[simp] theorem strB_5 : strB Tryz.prog 5 = false := by kernel_rfl
@[simp] theorem bolB_5 : bolB Tryz.prog 5 = false := by kernel_rfl
@[simp] theorem mapB_5 : mapB Tryz.prog 5 = false := by kernel_rfl
@[simp] theorem intK_5 : intK Tryz.prog 5 = some IntKind.u8 := by kernel_rfl
@[simp] theorem zrow_5 : zrow Tryz.prog 5 = some [AV.sc (Value.int IntKind.u8 0)] := by kernel_rfl
@[simp] theorem bldOk_5 : bldOk Tryz.prog 5 = false := by kernel_rfl
@[simp] theorem tcs_5 : tcs Tryz.prog 5 = [5] := by kernel_rfl
@[simp] theorem srcT_5 : srcT Tryz.prog 5 = false := by kernel_rfl
@[simp] theorem zok_5 : zok Tryz.prog 5 = true := by kernel_rfl
@[simp] theorem flds_5 : flds Tryz.prog 5 = [] := by kernel_rfl
@[simp] theorem zeros_5 : zeros Tryz.prog 5 = some [Value.int IntKind.u8 0] := by kernel_rfl
@[simp] theorem isinfo_5 : (Tryz.prog.info? 5).isSome = true := by kernel_rfl
@[simp] theorem isund_5 : (Tryz.prog.underlying 5).isSome = true := by kernel_rfl
@[simp] theorem cellsOf_9 : Tryz.prog.cellsOf 9 = 1 := by kernel_rfl
@[simp] theorem bytesOf_9 : Tryz.prog.bytesOf 9 = 16 := by kernel_rfl
@[simp] theorem slel_9 : slel Tryz.prog 9 = none := by kernel_rfl
@[simp] theorem isAggB_9 : isAggB Tryz.prog 9 = false := by kernel_rfl
@[simp] theorem tOk_9 : tOk Tryz.prog 9 = true := by kernel_rfl
@[simp] theorem arrOf_9 : arrOf Tryz.prog 9 = none := by kernel_rfl
@[simp] theorem strB_9 : strB Tryz.prog 9 = true := by kernel_rfl
@[simp] theorem bolB_9 : bolB Tryz.prog 9 = false := by kernel_rfl
@[simp] theorem mapB_9 : mapB Tryz.prog 9 = false := by kernel_rfl
@[simp] theorem intK_9 : intK Tryz.prog 9 = none := by kernel_rfl
@[simp] theorem zrow_9 : zrow Tryz.prog 9 = some [AV.sc (Value.string { data := { toList := [] } })] := by kernel_rfl
@[simp] theorem bldOk_9 : bldOk Tryz.prog 9 = false := by kernel_rfl
@[simp] theorem tcs_9 : tcs Tryz.prog 9 = [9] := by kernel_rfl
@[simp] theorem srcT_9 : srcT Tryz.prog 9 = true := by kernel_rfl
@[simp] theorem zok_9 : zok Tryz.prog 9 = true := by kernel_rfl
@[simp] theorem flds_9 : flds Tryz.prog 9 = [] := by kernel_rfl
@[simp] theorem zeros_9 : zeros Tryz.prog 9 = some [Value.string { data := { toList := [] } }] := by kernel_rfl
@[simp] theorem isinfo_9 : (Tryz.prog.info? 9).isSome = true := by kernel_rfl
@[simp] theorem isund_9 : (Tryz.prog.underlying 9).isSome = true := by kernel_rfl
@[simp] theorem cellsOf_21 : Tryz.prog.cellsOf 21 = 1 := by kernel_rfl
@[simp] theorem bytesOf_21 : Tryz.prog.bytesOf 21 = 4 := by kernel_rfl
@[simp] theorem slel_21 : slel Tryz.prog 21 = none := by kernel_rfl
@[simp] theorem isAggB_21 : isAggB Tryz.prog 21 = false := by kernel_rfl
@[simp] theorem tOk_21 : tOk Tryz.prog 21 = true := by kernel_rfl
@[simp] theorem arrOf_21 : arrOf Tryz.prog 21 = none := by kernel_rfl
@[simp] theorem strB_21 : strB Tryz.prog 21 = false := by kernel_rfl
@[simp] theorem bolB_21 : bolB Tryz.prog 21 = false := by kernel_rfl
@[simp] theorem mapB_21 : mapB Tryz.prog 21 = false := by kernel_rfl
@[simp] theorem intK_21 : intK Tryz.prog 21 = some IntKind.i32 := by kernel_rfl
@[simp] theorem zrow_21 : zrow Tryz.prog 21 = some [AV.sc (Value.int IntKind.i32 0)] := by kernel_rfl
@[simp] theorem bldOk_21 : bldOk Tryz.prog 21 = false := by kernel_rfl
@[simp] theorem tcs_21 : tcs Tryz.prog 21 = [21] := by kernel_rfl
@[simp] theorem srcT_21 : srcT Tryz.prog 21 = false := by kernel_rfl
@[simp] theorem zok_21 : zok Tryz.prog 21 = true := by kernel_rfl
@[simp] theorem flds_21 : flds Tryz.prog 21 = [] := by kernel_rfl
@[simp] theorem zeros_21 : zeros Tryz.prog 21 = some [Value.int IntKind.i32 0] := by kernel_rfl
@[simp] theorem isinfo_21 : (Tryz.prog.info? 21).isSome = true := by kernel_rfl
@[simp] theorem isund_21 : (Tryz.prog.underlying 21).isSome = true := by kernel_rfl
@[simp] theorem cellsOf_22 : Tryz.prog.cellsOf 22 = 1 := by kernel_rfl
@[simp] theorem bytesOf_22 : Tryz.prog.bytesOf 22 = 24 := by kernel_rfl
@[simp] theorem slel_22 : slel Tryz.prog 22 = some 32 := by kernel_rfl
@[simp] theorem isAggB_22 : isAggB Tryz.prog 22 = false := by kernel_rfl
@[simp] theorem tOk_22 : tOk Tryz.prog 22 = true := by kernel_rfl
@[simp] theorem arrOf_22 : arrOf Tryz.prog 22 = none := by kernel_rfl
@[simp] theorem strB_22 : strB Tryz.prog 22 = false := by kernel_rfl
@[simp] theorem bolB_22 : bolB Tryz.prog 22 = false := by kernel_rfl
@[simp] theorem mapB_22 : mapB Tryz.prog 22 = false := by kernel_rfl
@[simp] theorem intK_22 : intK Tryz.prog 22 = none := by kernel_rfl
@[simp] theorem zrow_22 : zrow Tryz.prog 22 = some [AV.sl false 1 []] := by kernel_rfl
@[simp] theorem bldOk_22 : bldOk Tryz.prog 22 = false := by kernel_rfl
@[simp] theorem tcs_22 : tcs Tryz.prog 22 = [22] := by kernel_rfl
@[simp] theorem srcT_22 : srcT Tryz.prog 22 = true := by kernel_rfl
@[simp] theorem zok_22 : zok Tryz.prog 22 = true := by kernel_rfl
@[simp] theorem flds_22 : flds Tryz.prog 22 = [] := by kernel_rfl
@[simp] theorem zeros_22 : zeros Tryz.prog 22 = some [Value.slice none 0 0] := by kernel_rfl
@[simp] theorem isinfo_22 : (Tryz.prog.info? 22).isSome = true := by kernel_rfl
@[simp] theorem isund_22 : (Tryz.prog.underlying 22).isSome = true := by kernel_rfl
@[simp] theorem cellsOf_24 : Tryz.prog.cellsOf 24 = 1 := by kernel_rfl
@[simp] theorem bytesOf_24 : Tryz.prog.bytesOf 24 = 8 := by kernel_rfl
@[simp] theorem slel_24 : slel Tryz.prog 24 = none := by kernel_rfl
@[simp] theorem isAggB_24 : isAggB Tryz.prog 24 = false := by kernel_rfl
@[simp] theorem tOk_24 : tOk Tryz.prog 24 = true := by kernel_rfl
@[simp] theorem arrOf_24 : arrOf Tryz.prog 24 = none := by kernel_rfl
@[simp] theorem strB_24 : strB Tryz.prog 24 = false := by kernel_rfl
@[simp] theorem bolB_24 : bolB Tryz.prog 24 = false := by kernel_rfl
@[simp] theorem mapB_24 : mapB Tryz.prog 24 = false := by kernel_rfl
@[simp] theorem intK_24 : intK Tryz.prog 24 = some IntKind.i64 := by kernel_rfl
@[simp] theorem zrow_24 : zrow Tryz.prog 24 = some [AV.sc (Value.int IntKind.i64 0)] := by kernel_rfl
@[simp] theorem bldOk_24 : bldOk Tryz.prog 24 = false := by kernel_rfl
@[simp] theorem tcs_24 : tcs Tryz.prog 24 = [24] := by kernel_rfl
@[simp] theorem srcT_24 : srcT Tryz.prog 24 = false := by kernel_rfl
@[simp] theorem zok_24 : zok Tryz.prog 24 = true := by kernel_rfl
@[simp] theorem flds_24 : flds Tryz.prog 24 = [] := by kernel_rfl
@[simp] theorem zeros_24 : zeros Tryz.prog 24 = some [Value.int IntKind.i64 0] := by kernel_rfl
@[simp] theorem isinfo_24 : (Tryz.prog.info? 24).isSome = true := by kernel_rfl
@[simp] theorem isund_24 : (Tryz.prog.underlying 24).isSome = true := by kernel_rfl
@[simp] theorem cellsOf_28 : Tryz.prog.cellsOf 28 = 2 := by kernel_rfl
@[simp] theorem bytesOf_28 : Tryz.prog.bytesOf 28 = 32 := by kernel_rfl
@[simp] theorem slel_28 : slel Tryz.prog 28 = none := by kernel_rfl
@[simp] theorem isAggB_28 : isAggB Tryz.prog 28 = true := by kernel_rfl
@[simp] theorem tOk_28 : tOk Tryz.prog 28 = true := by kernel_rfl
@[simp] theorem arrOf_28 : arrOf Tryz.prog 28 = none := by kernel_rfl
@[simp] theorem strB_28 : strB Tryz.prog 28 = false := by kernel_rfl
@[simp] theorem bolB_28 : bolB Tryz.prog 28 = false := by kernel_rfl
@[simp] theorem mapB_28 : mapB Tryz.prog 28 = false := by kernel_rfl
@[simp] theorem intK_28 : intK Tryz.prog 28 = none := by kernel_rfl
@[simp] theorem zrow_28 : zrow Tryz.prog 28 = some [AV.sl false 1 [], AV.sc (Value.int IntKind.i64 0)] := by kernel_rfl
@[simp] theorem bldOk_28 : bldOk Tryz.prog 28 = true := by kernel_rfl
@[simp] theorem tcs_28 : tcs Tryz.prog 28 = [22, 3] := by kernel_rfl
@[simp] theorem srcT_28 : srcT Tryz.prog 28 = false := by kernel_rfl
@[simp] theorem zok_28 : zok Tryz.prog 28 = true := by kernel_rfl
@[simp] theorem flds_28 : flds Tryz.prog 28 = [(0, 1, 22), (1, 1, 3)] := by kernel_rfl
@[simp] theorem zeros_28 : zeros Tryz.prog 28 = some [Value.slice none 0 0, Value.int IntKind.i64 0] := by kernel_rfl
@[simp] theorem isinfo_28 : (Tryz.prog.info? 28).isSome = true := by kernel_rfl
@[simp] theorem isund_28 : (Tryz.prog.underlying 28).isSome = true := by kernel_rfl
@[simp] theorem cellsOf_31 : Tryz.prog.cellsOf 31 = 1 := by kernel_rfl
@[simp] theorem bytesOf_31 : Tryz.prog.bytesOf 31 = 24 := by kernel_rfl
@[simp] theorem slel_31 : slel Tryz.prog 31 = some 3 := by kernel_rfl
@[simp] theorem isAggB_31 : isAggB Tryz.prog 31 = false := by kernel_rfl
@[simp] theorem tOk_31 : tOk Tryz.prog 31 = true := by kernel_rfl
@[simp] theorem arrOf_31 : arrOf Tryz.prog 31 = none := by kernel_rfl
@[simp] theorem strB_31 : strB Tryz.prog 31 = false := by kernel_rfl
@[simp] theorem bolB_31 : bolB Tryz.prog 31 = false := by kernel_rfl
@[simp] theorem mapB_31 : mapB Tryz.prog 31 = false := by kernel_rfl
@[simp] theorem intK_31 : intK Tryz.prog 31 = none := by kernel_rfl
@[simp] theorem zrow_31 : zrow Tryz.prog 31 = some [AV.sl false 1 []] := by kernel_rfl
@[simp] theorem bldOk_31 : bldOk Tryz.prog 31 = false := by kernel_rfl
@[simp] theorem tcs_31 : tcs Tryz.prog 31 = [31] := by kernel_rfl
@[simp] theorem srcT_31 : srcT Tryz.prog 31 = true := by kernel_rfl
@[simp] theorem zok_31 : zok Tryz.prog 31 = true := by kernel_rfl
@[simp] theorem flds_31 : flds Tryz.prog 31 = [] := by kernel_rfl
@[simp] theorem zeros_31 : zeros Tryz.prog 31 = some [Value.slice none 0 0] := by kernel_rfl
@[simp] theorem isinfo_31 : (Tryz.prog.info? 31).isSome = true := by kernel_rfl
@[simp] theorem isund_31 : (Tryz.prog.underlying 31).isSome = true := by kernel_rfl
@[simp] theorem cellsOf_32 : Tryz.prog.cellsOf 32 = 1 := by kernel_rfl
@[simp] theorem bytesOf_32 : Tryz.prog.bytesOf 32 = 4 := by kernel_rfl
@[simp] theorem slel_32 : slel Tryz.prog 32 = none := by kernel_rfl
@[simp] theorem isAggB_32 : isAggB Tryz.prog 32 = false := by kernel_rfl
@[simp] theorem tOk_32 : tOk Tryz.prog 32 = true := by kernel_rfl
@[simp] theorem arrOf_32 : arrOf Tryz.prog 32 = none := by kernel_rfl
@[simp] theorem strB_32 : strB Tryz.prog 32 = false := by kernel_rfl
@[simp] theorem bolB_32 : bolB Tryz.prog 32 = false := by kernel_rfl
@[simp] theorem mapB_32 : mapB Tryz.prog 32 = false := by kernel_rfl
@[simp] theorem intK_32 : intK Tryz.prog 32 = some IntKind.u32 := by kernel_rfl
@[simp] theorem zrow_32 : zrow Tryz.prog 32 = some [AV.sc (Value.int IntKind.u32 0)] := by kernel_rfl
@[simp] theorem bldOk_32 : bldOk Tryz.prog 32 = false := by kernel_rfl
@[simp] theorem tcs_32 : tcs Tryz.prog 32 = [32] := by kernel_rfl
@[simp] theorem srcT_32 : srcT Tryz.prog 32 = false := by kernel_rfl
@[simp] theorem zok_32 : zok Tryz.prog 32 = true := by kernel_rfl
@[simp] theorem flds_32 : flds Tryz.prog 32 = [] := by kernel_rfl
@[simp] theorem zeros_32 : zeros Tryz.prog 32 = some [Value.int IntKind.u32 0] := by kernel_rfl
@[simp] theorem isinfo_32 : (Tryz.prog.info? 32).isSome = true := by kernel_rfl
@[simp] theorem isund_32 : (Tryz.prog.underlying 32).isSome = true := by kernel_rfl
@[simp] theorem cellsOf_92 : Tryz.prog.cellsOf 92 = 1 := by kernel_rfl
@[simp] theorem bytesOf_92 : Tryz.prog.bytesOf 92 = 24 := by kernel_rfl
@[simp] theorem slel_92 : slel Tryz.prog 92 = some 5 := by kernel_rfl
@[simp] theorem isAggB_92 : isAggB Tryz.prog 92 = false := by kernel_rfl
@[simp] theorem tOk_92 : tOk Tryz.prog 92 = true := by kernel_rfl
@[simp] theorem arrOf_92 : arrOf Tryz.prog 92 = none := by kernel_rfl
@[simp] theorem strB_92 : strB Tryz.prog 92 = false := by kernel_rfl
@[simp] theorem bolB_92 : bolB Tryz.prog 92 = false := by kernel_rfl
@[simp] theorem mapB_92 : mapB Tryz.prog 92 = false := by kernel_rfl
@[simp] theorem intK_92 : intK Tryz.prog 92 = none := by kernel_rfl
@[simp] theorem zrow_92 : zrow Tryz.prog 92 = some [AV.sl false 1 []] := by kernel_rfl
@[simp] theorem bldOk_92 : bldOk Tryz.prog 92 = false := by kernel_rfl
@[simp] theorem tcs_92 : tcs Tryz.prog 92 = [92] := by kernel_rfl
@[simp] theorem srcT_92 : srcT Tryz.prog 92 = true := by kernel_rfl
@[simp] theorem zok_92 : zok Tryz.prog 92 = true := by kernel_rfl
@[simp] theorem flds_92 : flds Tryz.prog 92 = [] := by kernel_rfl
@[simp] theorem zeros_92 : zeros Tryz.prog 92 = some [Value.slice none 0 0] := by kernel_rfl
@[simp] theorem isinfo_92 : (Tryz.prog.info? 92).isSome = true := by kernel_rfl
@[simp] theorem isund_92 : (Tryz.prog.underlying 92).isSome = true := by kernel_rfl
@[simp] theorem cellsOf_93 : Tryz.prog.cellsOf 93 = 1 := by kernel_rfl
@[simp] theorem bytesOf_93 : Tryz.prog.bytesOf 93 = 8 := by kernel_rfl
@[simp] theorem slel_93 : slel Tryz.prog 93 = none := by kernel_rfl
@[simp] theorem isAggB_93 : isAggB Tryz.prog 93 = false := by kernel_rfl
@[simp] theorem tOk_93 : tOk Tryz.prog 93 = true := by kernel_rfl
@[simp] theorem arrOf_93 : arrOf Tryz.prog 93 = none := by kernel_rfl
@[simp] theorem strB_93 : strB Tryz.prog 93 = false := by kernel_rfl
@[simp] theorem bolB_93 : bolB Tryz.prog 93 = false := by kernel_rfl
@[simp] theorem mapB_93 : mapB Tryz.prog 93 = false := by kernel_rfl
@[simp] theorem intK_93 : intK Tryz.prog 93 = some IntKind.u64 := by kernel_rfl
@[simp] theorem zrow_93 : zrow Tryz.prog 93 = some [AV.sc (Value.int IntKind.u64 0)] := by kernel_rfl
@[simp] theorem bldOk_93 : bldOk Tryz.prog 93 = false := by kernel_rfl
@[simp] theorem tcs_93 : tcs Tryz.prog 93 = [93] := by kernel_rfl
@[simp] theorem srcT_93 : srcT Tryz.prog 93 = false := by kernel_rfl
@[simp] theorem zok_93 : zok Tryz.prog 93 = true := by kernel_rfl
@[simp] theorem flds_93 : flds Tryz.prog 93 = [] := by kernel_rfl
@[simp] theorem zeros_93 : zeros Tryz.prog 93 = some [Value.int IntKind.u64 0] := by kernel_rfl
@[simp] theorem isinfo_93 : (Tryz.prog.info? 93).isSome = true := by kernel_rfl
@[simp] theorem isund_93 : (Tryz.prog.underlying 93).isSome = true := by kernel_rfl
@[simp] theorem cellsOf_95 : Tryz.prog.cellsOf 95 = 1 := by kernel_rfl
@[simp] theorem bytesOf_95 : Tryz.prog.bytesOf 95 = 8 := by kernel_rfl
@[simp] theorem slel_95 : slel Tryz.prog 95 = none := by kernel_rfl
@[simp] theorem isAggB_95 : isAggB Tryz.prog 95 = false := by kernel_rfl
@[simp] theorem tOk_95 : tOk Tryz.prog 95 = true := by kernel_rfl
@[simp] theorem arrOf_95 : arrOf Tryz.prog 95 = none := by kernel_rfl
@[simp] theorem strB_95 : strB Tryz.prog 95 = false := by kernel_rfl
@[simp] theorem bolB_95 : bolB Tryz.prog 95 = false := by kernel_rfl
@[simp] theorem mapB_95 : mapB Tryz.prog 95 = false := by kernel_rfl
@[simp] theorem intK_95 : intK Tryz.prog 95 = some IntKind.u64 := by kernel_rfl
@[simp] theorem zrow_95 : zrow Tryz.prog 95 = some [AV.sc (Value.int IntKind.u64 0)] := by kernel_rfl
@[simp] theorem bldOk_95 : bldOk Tryz.prog 95 = false := by kernel_rfl
@[simp] theorem tcs_95 : tcs Tryz.prog 95 = [95] := by kernel_rfl
@[simp] theorem srcT_95 : srcT Tryz.prog 95 = false := by kernel_rfl
@[simp] theorem zok_95 : zok Tryz.prog 95 = true := by kernel_rfl
@[simp] theorem flds_95 : flds Tryz.prog 95 = [] := by kernel_rfl
@[simp] theorem zeros_95 : zeros Tryz.prog 95 = some [Value.int IntKind.u64 0] := by kernel_rfl
@[simp] theorem isinfo_95 : (Tryz.prog.info? 95).isSome = true := by kernel_rfl
@[simp] theorem isund_95 : (Tryz.prog.underlying 95).isSome = true := by kernel_rfl
@[simp] theorem cellsOf_119 : Tryz.prog.cellsOf 119 = 4 := by kernel_rfl
@[simp] theorem bytesOf_119 : Tryz.prog.bytesOf 119 = 32 := by kernel_rfl
@[simp] theorem slel_119 : slel Tryz.prog 119 = none := by kernel_rfl
@[simp] theorem isAggB_119 : isAggB Tryz.prog 119 = true := by kernel_rfl
@[simp] theorem tOk_119 : tOk Tryz.prog 119 = true := by kernel_rfl
@[simp] theorem arrOf_119 : arrOf Tryz.prog 119 = none := by kernel_rfl
@[simp] theorem strB_119 : strB Tryz.prog 119 = false := by kernel_rfl
@[simp] theorem bolB_119 : bolB Tryz.prog 119 = false := by kernel_rfl
@[simp] theorem mapB_119 : mapB Tryz.prog 119 = false := by kernel_rfl
@[simp] theorem intK_119 : intK Tryz.prog 119 = none := by kernel_rfl
@[simp] theorem zrow_119 : zrow Tryz.prog 119 = some [AV.sc (Value.int IntKind.i64 0), AV.sc (Value.int IntKind.i64 0), AV.sc (Value.int IntKind.i64 0), AV.sc (Value.int IntKind.i64 0)] := by kernel_rfl
@[simp] theorem bldOk_119 : bldOk Tryz.prog 119 = true := by kernel_rfl
@[simp] theorem tcs_119 : tcs Tryz.prog 119 = [3, 3, 3, 3] := by kernel_rfl
@[simp] theorem srcT_119 : srcT Tryz.prog 119 = false := by kernel_rfl
@[simp] theorem zok_119 : zok Tryz.prog 119 = true := by kernel_rfl
@[simp] theorem flds_119 : flds Tryz.prog 119 = [(0, 1, 3), (1, 1, 3), (2, 1, 3), (3, 1, 3)] := by kernel_rfl
@[simp] theorem zeros_119 : zeros Tryz.prog 119 = some [Value.int IntKind.i64 0, Value.int IntKind.i64 0, Value.int IntKind.i64 0, Value.int IntKind.i64 0] := by kernel_rfl
@[simp] theorem isinfo_119 : (Tryz.prog.info? 119).isSome = true := by kernel_rfl
@[simp] theorem isund_119 : (Tryz.prog.underlying 119).isSome = true := by kernel_rfl
@[simp] theorem cellsOf_131 : Tryz.prog.cellsOf 131 = 1 := by kernel_rfl
@[simp] theorem bytesOf_131 : Tryz.prog.bytesOf 131 = 0 := by kernel_rfl
@[simp] theorem slel_131 : slel Tryz.prog 131 = none := by kernel_rfl
@[simp] theorem isAggB_131 : isAggB Tryz.prog 131 = false := by kernel_rfl
@[simp] theorem tOk_131 : tOk Tryz.prog 131 = true := by kernel_rfl
@[simp] theorem arrOf_131 : arrOf Tryz.prog 131 = none := by kernel_rfl
@[simp] theorem strB_131 : strB Tryz.prog 131 = false := by kernel_rfl
@[simp] theorem bolB_131 : bolB Tryz.prog 131 = false := by kernel_rfl
@[simp] theorem mapB_131 : mapB Tryz.prog 131 = false := by kernel_rfl
@[simp] theorem intK_131 : intK Tryz.prog 131 = none := by kernel_rfl
@[simp] theorem zrow_131 : zrow Tryz.prog 131 = none := by kernel_rfl
@[simp] theorem bldOk_131 : bldOk Tryz.prog 131 = false := by kernel_rfl
@[simp] theorem tcs_131 : tcs Tryz.prog 131 = [131] := by kernel_rfl
@[simp] theorem srcT_131 : srcT Tryz.prog 131 = false := by kernel_rfl
@[simp] theorem zok_131 : zok Tryz.prog 131 = true := by kernel_rfl
@[simp] theorem flds_131 : flds Tryz.prog 131 = [] := by kernel_rfl
@[simp] theorem zeros_131 : zeros Tryz.prog 131 = some [Value.tuple { toList := [Value.int IntKind.u32 0, Value.int IntKind.i64 0] }] := by kernel_rfl
@[simp] theorem isinfo_131 : (Tryz.prog.info? 131).isSome = true := by kernel_rfl
@[simp] theorem isund_131 : (Tryz.prog.underlying 131).isSome = true := by kernel_rfl
@[simp] theorem cellsOf_133 : Tryz.prog.cellsOf 133 = 16 := by kernel_rfl
@[simp] theorem bytesOf_133 : Tryz.prog.bytesOf 133 = 64 := by kernel_rfl
@[simp] theorem slel_133 : slel Tryz.prog 133 = none := by kernel_rfl
@[simp] theorem isAggB_133 : isAggB Tryz.prog 133 = true := by kernel_rfl
@[simp] theorem tOk_133 : tOk Tryz.prog 133 = true := by kernel_rfl
@[simp] theorem arrOf_133 : arrOf Tryz.prog 133 = some (16, 32) := by kernel_rfl
@[simp] theorem strB_133 : strB Tryz.prog 133 = false := by kernel_rfl
@[simp] theorem bolB_133 : bolB Tryz.prog 133 = false := by kernel_rfl
@[simp] theorem mapB_133 : mapB Tryz.prog 133 = false := by kernel_rfl
@[simp] theorem intK_133 : intK Tryz.prog 133 = none := by kernel_rfl
@[simp] theorem zrow_133 : zrow Tryz.prog 133 = some [AV.sc (Value.int IntKind.u32 0), AV.sc (Value.int IntKind.u32 0), AV.sc (Value.int IntKind.u32 0), AV.sc (Value.int IntKind.u32 0), AV.sc (Value.int IntKind.u32 0), AV.sc (Value.int IntKind.u32 0), AV.sc (Value.int IntKind.u32 0), AV.sc (Value.int IntKind.u32 0), AV.sc (Value.int IntKind.u32 0), AV.sc (Value.int IntKind.u32 0), AV.sc (Value.int IntKind.u32 0), AV.sc (Value.int IntKind.u32 0), AV.sc (Value.int IntKind.u32 0), AV.sc (Value.int IntKind.u32 0), AV.sc (Value.int IntKind.u32 0), AV.sc (Value.int IntKind.u32 0)] := by kernel_rfl
@[simp] theorem bldOk_133 : bldOk Tryz.prog 133 = true := by kernel_rfl
@[simp] theorem tcs_133 : tcs Tryz.prog 133 = [32, 32, 32, 32, 32, 32, 32, 32, 32, 32, 32, 32, 32, 32, 32, 32] := by kernel_rfl
@[simp] theorem srcT_133 : srcT Tryz.prog 133 = false := by kernel_rfl
@[simp] theorem zok_133 : zok Tryz.prog 133 = true := by kernel_rfl
@[simp] theorem flds_133 : flds Tryz.prog 133 = [] := by kernel_rfl
@[simp] theorem zeros_133 : zeros Tryz.prog 133 = some [Value.int IntKind.u32 0, Value.int IntKind.u32 0, Value.int IntKind.u32 0, Value.int IntKind.u32 0, Value.int IntKind.u32 0, Value.int IntKind.u32 0, Value.int IntKind.u32 0, Value.int IntKind.u32 0, Value.int IntKind.u32 0, Value.int IntKind.u32 0, Value.int IntKind.u32 0, Value.int IntKind.u32 0, Value.int IntKind.u32 0, Value.int IntKind.u32 0, Value.int IntKind.u32 0, Value.int IntKind.u32 0] := by kernel_rfl
@[simp] theorem isinfo_133 : (Tryz.prog.info? 133).isSome = true := by kernel_rfl
@[simp] theorem isund_133 : (Tryz.prog.underlying 133).isSome = true := by kernel_rfl
@[simp] theorem cellsOf_135 : Tryz.prog.cellsOf 135 = 22 := by kernel_rfl
@[simp] theorem bytesOf_135 : Tryz.prog.bytesOf 135 = 136 := by kernel_rfl
@[simp] theorem slel_135 : slel Tryz.prog 135 = none := by kernel_rfl
@[simp] theorem isAggB_135 : isAggB Tryz.prog 135 = true := by kernel_rfl
@[simp] theorem tOk_135 : tOk Tryz.prog 135 = true := by kernel_rfl
@[simp] theorem arrOf_135 : arrOf Tryz.prog 135 = none := by kernel_rfl
@[simp] theorem strB_135 : strB Tryz.prog 135 = false := by kernel_rfl
@[simp] theorem bolB_135 : bolB Tryz.prog 135 = false := by kernel_rfl
@[simp] theorem mapB_135 : mapB Tryz.prog 135 = false := by kernel_rfl
@[simp] theorem intK_135 : intK Tryz.prog 135 = none := by kernel_rfl
@[simp] theorem zrow_135 : zrow Tryz.prog 135 = some [AV.sc (Value.int IntKind.i64 0), AV.sc (Value.int IntKind.u32 0), AV.sc (Value.int IntKind.u32 0), AV.sc (Value.int IntKind.u32 0), AV.sc (Value.int IntKind.u32 0), AV.sc (Value.int IntKind.u32 0), AV.sc (Value.int IntKind.u32 0), AV.sc (Value.int IntKind.u32 0), AV.sc (Value.int IntKind.u32 0), AV.sc (Value.int IntKind.u32 0), AV.sc (Value.int IntKind.u32 0), AV.sc (Value.int IntKind.u32 0), AV.sc (Value.int IntKind.u32 0), AV.sc (Value.int IntKind.u32 0), AV.sc (Value.int IntKind.u32 0), AV.sc (Value.int IntKind.u32 0), AV.sc (Value.int IntKind.u32 0), AV.sl false 1 [], AV.sc (Value.int IntKind.i64 0), AV.sc (Value.string { data := { toList := [] } }), AV.sc (Value.int IntKind.i64 0), AV.sc (Value.int IntKind.i64 0)] := by kernel_rfl
@[simp] theorem bldOk_135 : bldOk Tryz.prog 135 = true := by kernel_rfl
@[simp] theorem tcs_135 : tcs Tryz.prog 135 = [3, 32, 32, 32, 32, 32, 32, 32, 32, 32, 32, 32, 32, 32, 32, 32, 32, 22, 3, 9, 3, 3] := by kernel_rfl
@[simp] theorem srcT_135 : srcT Tryz.prog 135 = false := by kernel_rfl
@[simp] theorem zok_135 : zok Tryz.prog 135 = true := by kernel_rfl
@[simp] theorem flds_135 : flds Tryz.prog 135 = [(0, 1, 3), (1, 16, 133), (17, 1, 22), (18, 1, 3), (19, 1, 9), (20, 1, 3), (21, 1, 3)] := by kernel_rfl
@[simp] theorem zeros_135 : zeros Tryz.prog 135 = some [Value.int IntKind.i64 0, Value.int IntKind.u32 0, Value.int IntKind.u32 0, Value.int IntKind.u32 0, Value.int IntKind.u32 0, Value.int IntKind.u32 0, Value.int IntKind.u32 0, Value.int IntKind.u32 0, Value.int IntKind.u32 0, Value.int IntKind.u32 0, Value.int IntKind.u32 0, Value.int IntKind.u32 0, Value.int IntKind.u32 0, Value.int IntKind.u32 0, Value.int IntKind.u32 0, Value.int IntKind.u32 0, Value.int IntKind.u32 0, Value.slice none 0 0, Value.int IntKind.i64 0, Value.string { data := { toList := [] } }, Value.int IntKind.i64 0, Value.int IntKind.i64 0] := by kernel_rfl
@[simp] theorem isinfo_135 : (Tryz.prog.info? 135).isSome = true := by kernel_rfl
@[simp] theorem isund_135 : (Tryz.prog.underlying 135).isSome = true := by kernel_rfl
@[simp] theorem cellsOf_268 : Tryz.prog.cellsOf 268 = 1 := by kernel_rfl
@[simp] theorem bytesOf_268 : Tryz.prog.bytesOf 268 = 8 := by kernel_rfl
@[simp] theorem slel_268 : slel Tryz.prog 268 = none := by kernel_rfl
@[simp] theorem isAggB_268 : isAggB Tryz.prog 268 = false := by kernel_rfl
@[simp] theorem tOk_268 : tOk Tryz.prog 268 = true := by kernel_rfl
@[simp] theorem arrOf_268 : arrOf Tryz.prog 268 = none := by kernel_rfl
@[simp] theorem strB_268 : strB Tryz.prog 268 = false := by kernel_rfl
@[simp] theorem bolB_268 : bolB Tryz.prog 268 = false := by kernel_rfl
@[simp] theorem mapB_268 : mapB Tryz.prog 268 = false := by kernel_rfl
@[simp] theorem intK_268 : intK Tryz.prog 268 = none := by kernel_rfl
@[simp] theorem zrow_268 : zrow Tryz.prog 268 = some [AV.sc Value.nilFunc] := by kernel_rfl
@[simp] theorem bldOk_268 : bldOk Tryz.prog 268 = false := by kernel_rfl
@[simp] theorem tcs_268 : tcs Tryz.prog 268 = [268] := by kernel_rfl
@[simp] theorem srcT_268 : srcT Tryz.prog 268 = false := by kernel_rfl
@[simp] theorem zok_268 : zok Tryz.prog 268 = true := by kernel_rfl
@[simp] theorem flds_268 : flds Tryz.prog 268 = [] := by kernel_rfl
@[simp] theorem zeros_268 : zeros Tryz.prog 268 = some [Value.nilFunc] := by kernel_rfl
@[simp] theorem isinfo_268 : (Tryz.prog.info? 268).isSome = true := by kernel_rfl
@[simp] theorem isund_268 : (Tryz.prog.underlying 268).isSome = true := by kernel_rfl
@[simp] theorem cellsOf_270 : Tryz.prog.cellsOf 270 = 4 := by kernel_rfl
@[simp] theorem bytesOf_270 : Tryz.prog.bytesOf 270 = 32 := by kernel_rfl
@[simp] theorem slel_270 : slel Tryz.prog 270 = none := by kernel_rfl
@[simp] theorem isAggB_270 : isAggB Tryz.prog 270 = true := by kernel_rfl
@[simp] theorem tOk_270 : tOk Tryz.prog 270 = true := by kernel_rfl
@[simp] theorem arrOf_270 : arrOf Tryz.prog 270 = none := by kernel_rfl
@[simp] theorem strB_270 : strB Tryz.prog 270 = false := by kernel_rfl
@[simp] theorem bolB_270 : bolB Tryz.prog 270 = false := by kernel_rfl
@[simp] theorem mapB_270 : mapB Tryz.prog 270 = false := by kernel_rfl
@[simp] theorem intK_270 : intK Tryz.prog 270 = none := by kernel_rfl
@[simp] theorem zrow_270 : zrow Tryz.prog 270 = some [AV.sc (Value.string { data := { toList := [] } }), AV.sc (Value.bool false), AV.sc (Value.bool false), AV.sc (Value.int IntKind.i64 0)] := by kernel_rfl
@[simp] theorem bldOk_270 : bldOk Tryz.prog 270 = true := by kernel_rfl
@[simp] theorem tcs_270 : tcs Tryz.prog 270 = [9, 4, 4, 3] := by kernel_rfl
@[simp] theorem srcT_270 : srcT Tryz.prog 270 = false := by kernel_rfl
@[simp] theorem zok_270 : zok Tryz.prog 270 = true := by kernel_rfl
@[simp] theorem flds_270 : flds Tryz.prog 270 = [(0, 1, 9), (1, 1, 4), (2, 1, 4), (3, 1, 3)] := by kernel_rfl
@[simp] theorem zeros_270 : zeros Tryz.prog 270 = some [Value.string { data := { toList := [] } }, Value.bool false, Value.bool false, Value.int IntKind.i64 0] := by kernel_rfl
@[simp] theorem isinfo_270 : (Tryz.prog.info? 270).isSome = true := by kernel_rfl
@[simp] theorem isund_270 : (Tryz.prog.underlying 270).isSome = true := by kernel_rfl
@[simp] theorem cellsOf_345 : Tryz.prog.cellsOf 345 = 1 := by kernel_rfl
@[simp] theorem bytesOf_345 : Tryz.prog.bytesOf 345 = 8 := by kernel_rfl
@[simp] theorem slel_345 : slel Tryz.prog 345 = none := by kernel_rfl
@[simp] theorem isAggB_345 : isAggB Tryz.prog 345 = false := by kernel_rfl
@[simp] theorem tOk_345 : tOk Tryz.prog 345 = true := by kernel_rfl
@[simp] theorem arrOf_345 : arrOf Tryz.prog 345 = none := by kernel_rfl
@[simp] theorem strB_345 : strB Tryz.prog 345 = false := by kernel_rfl
@[simp] theorem bolB_345 : bolB Tryz.prog 345 = false := by kernel_rfl
@[simp] theorem mapB_345 : mapB Tryz.prog 345 = false := by kernel_rfl
@[simp] theorem intK_345 : intK Tryz.prog 345 = none := by kernel_rfl
@[simp] theorem zrow_345 : zrow Tryz.prog 345 = some [AV.sc (Value.pointer none)] := by kernel_rfl
@[simp] theorem bldOk_345 : bldOk Tryz.prog 345 = false := by kernel_rfl
@[simp] theorem tcs_345 : tcs Tryz.prog 345 = [345] := by kernel_rfl
@[simp] theorem srcT_345 : srcT Tryz.prog 345 = false := by kernel_rfl
@[simp] theorem zok_345 : zok Tryz.prog 345 = true := by kernel_rfl
@[simp] theorem flds_345 : flds Tryz.prog 345 = [] := by kernel_rfl
@[simp] theorem zeros_345 : zeros Tryz.prog 345 = some [Value.pointer none] := by kernel_rfl
@[simp] theorem isinfo_345 : (Tryz.prog.info? 345).isSome = true := by kernel_rfl
@[simp] theorem isund_345 : (Tryz.prog.underlying 345).isSome = true := by kernel_rfl
@[simp] theorem cellsOf_347 : Tryz.prog.cellsOf 347 = 1 := by kernel_rfl
@[simp] theorem bytesOf_347 : Tryz.prog.bytesOf 347 = 8 := by kernel_rfl
@[simp] theorem slel_347 : slel Tryz.prog 347 = none := by kernel_rfl
@[simp] theorem isAggB_347 : isAggB Tryz.prog 347 = false := by kernel_rfl
@[simp] theorem tOk_347 : tOk Tryz.prog 347 = true := by kernel_rfl
@[simp] theorem arrOf_347 : arrOf Tryz.prog 347 = none := by kernel_rfl
@[simp] theorem strB_347 : strB Tryz.prog 347 = false := by kernel_rfl
@[simp] theorem bolB_347 : bolB Tryz.prog 347 = false := by kernel_rfl
@[simp] theorem mapB_347 : mapB Tryz.prog 347 = false := by kernel_rfl
@[simp] theorem intK_347 : intK Tryz.prog 347 = none := by kernel_rfl
@[simp] theorem zrow_347 : zrow Tryz.prog 347 = some [AV.sc Value.nilFunc] := by kernel_rfl
@[simp] theorem bldOk_347 : bldOk Tryz.prog 347 = false := by kernel_rfl
@[simp] theorem tcs_347 : tcs Tryz.prog 347 = [347] := by kernel_rfl
@[simp] theorem srcT_347 : srcT Tryz.prog 347 = false := by kernel_rfl
@[simp] theorem zok_347 : zok Tryz.prog 347 = true := by kernel_rfl
@[simp] theorem flds_347 : flds Tryz.prog 347 = [] := by kernel_rfl
@[simp] theorem zeros_347 : zeros Tryz.prog 347 = some [Value.nilFunc] := by kernel_rfl
@[simp] theorem isinfo_347 : (Tryz.prog.info? 347).isSome = true := by kernel_rfl
@[simp] theorem isund_347 : (Tryz.prog.underlying 347).isSome = true := by kernel_rfl
@[simp] theorem cellsOf_348 : Tryz.prog.cellsOf 348 = 1 := by kernel_rfl
@[simp] theorem bytesOf_348 : Tryz.prog.bytesOf 348 = 8 := by kernel_rfl
@[simp] theorem slel_348 : slel Tryz.prog 348 = none := by kernel_rfl
@[simp] theorem isAggB_348 : isAggB Tryz.prog 348 = false := by kernel_rfl
@[simp] theorem tOk_348 : tOk Tryz.prog 348 = true := by kernel_rfl
@[simp] theorem arrOf_348 : arrOf Tryz.prog 348 = none := by kernel_rfl
@[simp] theorem strB_348 : strB Tryz.prog 348 = false := by kernel_rfl
@[simp] theorem bolB_348 : bolB Tryz.prog 348 = false := by kernel_rfl
@[simp] theorem mapB_348 : mapB Tryz.prog 348 = false := by kernel_rfl
@[simp] theorem intK_348 : intK Tryz.prog 348 = none := by kernel_rfl
@[simp] theorem zrow_348 : zrow Tryz.prog 348 = some [AV.sc Value.nilFunc] := by kernel_rfl
@[simp] theorem bldOk_348 : bldOk Tryz.prog 348 = false := by kernel_rfl
@[simp] theorem tcs_348 : tcs Tryz.prog 348 = [348] := by kernel_rfl
@[simp] theorem srcT_348 : srcT Tryz.prog 348 = false := by kernel_rfl
@[simp] theorem zok_348 : zok Tryz.prog 348 = true := by kernel_rfl
@[simp] theorem flds_348 : flds Tryz.prog 348 = [] := by kernel_rfl
@[simp] theorem zeros_348 : zeros Tryz.prog 348 = some [Value.nilFunc] := by kernel_rfl
@[simp] theorem isinfo_348 : (Tryz.prog.info? 348).isSome = true := by kernel_rfl
@[simp] theorem isund_348 : (Tryz.prog.underlying 348).isSome = true := by kernel_rfl
@[simp] theorem cellsOf_351 : Tryz.prog.cellsOf 351 = 1 := by kernel_rfl
@[simp] theorem bytesOf_351 : Tryz.prog.bytesOf 351 = 0 := by kernel_rfl
@[simp] theorem slel_351 : slel Tryz.prog 351 = none := by kernel_rfl
@[simp] theorem isAggB_351 : isAggB Tryz.prog 351 = false := by kernel_rfl
@[simp] theorem tOk_351 : tOk Tryz.prog 351 = true := by kernel_rfl
@[simp] theorem arrOf_351 : arrOf Tryz.prog 351 = none := by kernel_rfl
@[simp] theorem strB_351 : strB Tryz.prog 351 = false := by kernel_rfl
@[simp] theorem bolB_351 : bolB Tryz.prog 351 = false := by kernel_rfl
@[simp] theorem mapB_351 : mapB Tryz.prog 351 = false := by kernel_rfl
@[simp] theorem intK_351 : intK Tryz.prog 351 = none := by kernel_rfl
@[simp] theorem zrow_351 : zrow Tryz.prog 351 = none := by kernel_rfl
@[simp] theorem bldOk_351 : bldOk Tryz.prog 351 = false := by kernel_rfl
@[simp] theorem tcs_351 : tcs Tryz.prog 351 = [351] := by kernel_rfl
@[simp] theorem srcT_351 : srcT Tryz.prog 351 = false := by kernel_rfl
@[simp] theorem zok_351 : zok Tryz.prog 351 = true := by kernel_rfl
@[simp] theorem flds_351 : flds Tryz.prog 351 = [] := by kernel_rfl
@[simp] theorem zeros_351 : zeros Tryz.prog 351 = some [Value.tuple { toList := [Value.agg { toList := [Value.int IntKind.i64 0, Value.int IntKind.i64 0, Value.int IntKind.i64 0, Value.int IntKind.i64 0] }, Value.int IntKind.i64 0] }] := by kernel_rfl
@[simp] theorem isinfo_351 : (Tryz.prog.info? 351).isSome = true := by kernel_rfl
@[simp] theorem isund_351 : (Tryz.prog.underlying 351).isSome = true := by kernel_rfl
@[simp] theorem cellsOf_442 : Tryz.prog.cellsOf 442 = 26 := by kernel_rfl
@[simp] theorem bytesOf_442 : Tryz.prog.bytesOf 442 = 208 := by kernel_rfl
@[simp] theorem slel_442 : slel Tryz.prog 442 = none := by kernel_rfl
@[simp] theorem isAggB_442 : isAggB Tryz.prog 442 = true := by kernel_rfl
@[simp] theorem tOk_442 : tOk Tryz.prog 442 = true := by kernel_rfl
@[simp] theorem arrOf_442 : arrOf Tryz.prog 442 = none := by kernel_rfl
@[simp] theorem strB_442 : strB Tryz.prog 442 = false := by kernel_rfl
@[simp] theorem bolB_442 : bolB Tryz.prog 442 = false := by kernel_rfl
@[simp] theorem mapB_442 : mapB Tryz.prog 442 = false := by kernel_rfl
@[simp] theorem intK_442 : intK Tryz.prog 442 = none := by kernel_rfl
@[simp] theorem zrow_442 : zrow Tryz.prog 442 = some [AV.sl false 1 [], AV.sc (Value.string { data := { toList := [] } }), AV.sc (Value.int IntKind.i64 0), AV.sc (Value.int IntKind.u32 0), AV.sc (Value.int IntKind.u32 0), AV.sc (Value.int IntKind.u32 0), AV.sc (Value.int IntKind.u32 0), AV.sc (Value.int IntKind.u32 0), AV.sc (Value.int IntKind.u32 0), AV.sc (Value.int IntKind.u32 0), AV.sc (Value.int IntKind.u32 0), AV.sc (Value.int IntKind.u32 0), AV.sc (Value.int IntKind.u32 0), AV.sc (Value.int IntKind.u32 0), AV.sc (Value.int IntKind.u32 0), AV.sc (Value.int IntKind.u32 0), AV.sc (Value.int IntKind.u32 0), AV.sc (Value.int IntKind.u32 0), AV.sc (Value.int IntKind.u32 0), AV.sl false 1 [], AV.sc (Value.int IntKind.i64 0), AV.sc (Value.string { data := { toList := [] } }), AV.sc (Value.int IntKind.i64 0), AV.sc (Value.int IntKind.i64 0), AV.sc (Value.bool false), AV.sl false 1 []] := by kernel_rfl
@[simp] theorem bldOk_442 : bldOk Tryz.prog 442 = true := by kernel_rfl
@[simp] theorem tcs_442 : tcs Tryz.prog 442 = [22, 9, 3, 32, 32, 32, 32, 32, 32, 32, 32, 32, 32, 32, 32, 32, 32, 32, 32, 22, 3, 9, 3, 3, 4, 92] := by kernel_rfl
@[simp] theorem srcT_442 : srcT Tryz.prog 442 = false := by kernel_rfl
@[simp] theorem zok_442 : zok Tryz.prog 442 = true := by kernel_rfl
@[simp] theorem flds_442 : flds Tryz.prog 442 = [(0, 1, 22), (1, 1, 9), (2, 22, 135), (24, 1, 4), (25, 1, 92)] := by kernel_rfl
@[simp] theorem zeros_442 : zeros Tryz.prog 442 = some [Value.slice none 0 0, Value.string { data := { toList := [] } }, Value.int IntKind.i64 0, Value.int IntKind.u32 0, Value.int IntKind.u32 0, Value.int IntKind.u32 0, Value.int IntKind.u32 0, Value.int IntKind.u32 0, Value.int IntKind.u32 0, Value.int IntKind.u32 0, Value.int IntKind.u32 0, Value.int IntKind.u32 0, Value.int IntKind.u32 0, Value.int IntKind.u32 0, Value.int IntKind.u32 0, Value.int IntKind.u32 0, Value.int IntKind.u32 0, Value.int IntKind.u32 0, Value.int IntKind.u32 0, Value.slice none 0 0, Value.int IntKind.i64 0, Value.string { data := { toList := [] } }, Value.int IntKind.i64 0, Value.int IntKind.i64 0, Value.bool false, Value.slice none 0 0] := by kernel_rfl
@[simp] theorem isinfo_442 : (Tryz.prog.info? 442).isSome = true := by kernel_rfl
@[simp] theorem isund_442 : (Tryz.prog.underlying 442).isSome = true := by kernel_rfl
@[simp] theorem cellsOf_526 : Tryz.prog.cellsOf 526 = 1 := by kernel_rfl
@[simp] theorem bytesOf_526 : Tryz.prog.bytesOf 526 = 8 := by kernel_rfl
@[simp] theorem slel_526 : slel Tryz.prog 526 = none := by kernel_rfl
@[simp] theorem isAggB_526 : isAggB Tryz.prog 526 = false := by kernel_rfl
@[simp] theorem tOk_526 : tOk Tryz.prog 526 = true := by kernel_rfl
@[simp] theorem arrOf_526 : arrOf Tryz.prog 526 = none := by kernel_rfl
@[simp] theorem strB_526 : strB Tryz.prog 526 = false := by kernel_rfl
@[simp] theorem bolB_526 : bolB Tryz.prog 526 = false := by kernel_rfl
@[simp] theorem mapB_526 : mapB Tryz.prog 526 = false := by kernel_rfl
@[simp] theorem intK_526 : intK Tryz.prog 526 = none := by kernel_rfl
@[simp] theorem zrow_526 : zrow Tryz.prog 526 = some [AV.sc (Value.pointer none)] := by kernel_rfl
@[simp] theorem bldOk_526 : bldOk Tryz.prog 526 = false := by kernel_rfl
@[simp] theorem tcs_526 : tcs Tryz.prog 526 = [526] := by kernel_rfl
@[simp] theorem srcT_526 : srcT Tryz.prog 526 = false := by kernel_rfl
@[simp] theorem zok_526 : zok Tryz.prog 526 = true := by kernel_rfl
@[simp] theorem flds_526 : flds Tryz.prog 526 = [] := by kernel_rfl
@[simp] theorem zeros_526 : zeros Tryz.prog 526 = some [Value.pointer none] := by kernel_rfl
@[simp] theorem isinfo_526 : (Tryz.prog.info? 526).isSome = true := by kernel_rfl
@[simp] theorem isund_526 : (Tryz.prog.underlying 526).isSome = true := by kernel_rfl
end Go.Proofs.YtaeeffddinppeaaGreatDoor
