/- Law 47: facts of the program. -/
import Derived.KernelRfl
import Derived.Test.YtdokejnokhicbaaProg
import Derived.Test.YtdokejnokhicbaaK3
namespace Go.Proofs.Ytdokejnokhicbaa
open Go Go.Ab
set_option linter.unusedSimpArgs false
set_option linter.unusedVariables false

@[simp] theorem cellsOf_0 : Try.prog.cellsOf 0 = 1 := by kernel_rfl
@[simp] theorem bytesOf_0 : Try.prog.bytesOf 0 = 0 := by kernel_rfl
@[simp] theorem slel_0 : slel Try.prog 0 = none := by kernel_rfl
@[simp] theorem isAggB_0 : isAggB Try.prog 0 = false := by kernel_rfl
@[simp] theorem tOk_0 : tOk Try.prog 0 = true := by kernel_rfl
@[simp] theorem arrOf_0 : arrOf Try.prog 0 = none := by kernel_rfl
@[simp] theorem strB_0 : strB Try.prog 0 = false := by kernel_rfl
@[simp] theorem bolB_0 : bolB Try.prog 0 = false := by kernel_rfl
@[simp] theorem mapB_0 : mapB Try.prog 0 = false := by kernel_rfl
@[simp] theorem intK_0 : intK Try.prog 0 = none := by kernel_rfl
@[simp] theorem zrow_0 : zrow Try.prog 0 = none := by kernel_rfl
@[simp] theorem bldOk_0 : bldOk Try.prog 0 = false := by kernel_rfl
@[simp] theorem tcs_0 : tcs Try.prog 0 = [0] := by kernel_rfl
@[simp] theorem srcT_0 : srcT Try.prog 0 = false := by kernel_rfl
@[simp] theorem zok_0 : zok Try.prog 0 = true := by kernel_rfl
@[simp] theorem flds_0 : flds Try.prog 0 = [] := by kernel_rfl
@[simp] theorem zeros_0 : zeros Try.prog 0 = some [Value.tuple { toList := [] }] := by kernel_rfl
@[simp] theorem isinfo_0 : (Try.prog.info? 0).isSome = true := by kernel_rfl
@[simp] theorem isund_0 : (Try.prog.underlying 0).isSome = true := by kernel_rfl
@[simp] theorem cellsOf_1 : Try.prog.cellsOf 1 = 1 := by kernel_rfl
@[simp] theorem bytesOf_1 : Try.prog.bytesOf 1 = 8 := by kernel_rfl
@[simp] theorem slel_1 : slel Try.prog 1 = none := by kernel_rfl
@[simp] theorem isAggB_1 : isAggB Try.prog 1 = false := by kernel_rfl
@[simp] theorem tOk_1 : tOk Try.prog 1 = true := by kernel_rfl
@[simp] theorem arrOf_1 : arrOf Try.prog 1 = none := by kernel_rfl
@[simp] theorem strB_1 : strB Try.prog 1 = false := by kernel_rfl
@[simp] theorem bolB_1 : bolB Try.prog 1 = false := by kernel_rfl
@[simp] theorem mapB_1 : mapB Try.prog 1 = false := by kernel_rfl
@[simp] theorem intK_1 : intK Try.prog 1 = none := by kernel_rfl
@[simp] theorem zrow_1 : zrow Try.prog 1 = some [AV.sc Value.nilFunc] := by kernel_rfl
@[simp] theorem bldOk_1 : bldOk Try.prog 1 = false := by kernel_rfl
@[simp] theorem tcs_1 : tcs Try.prog 1 = [1] := by kernel_rfl
@[simp] theorem srcT_1 : srcT Try.prog 1 = false := by kernel_rfl
@[simp] theorem zok_1 : zok Try.prog 1 = true := by kernel_rfl
@[simp] theorem flds_1 : flds Try.prog 1 = [] := by kernel_rfl
@[simp] theorem zeros_1 : zeros Try.prog 1 = some [Value.nilFunc] := by kernel_rfl
@[simp] theorem isinfo_1 : (Try.prog.info? 1).isSome = true := by kernel_rfl
@[simp] theorem isund_1 : (Try.prog.underlying 1).isSome = true := by kernel_rfl
@[simp] theorem cellsOf_2 : Try.prog.cellsOf 2 = 1 := by kernel_rfl
@[simp] theorem bytesOf_2 : Try.prog.bytesOf 2 = 8 := by kernel_rfl
@[simp] theorem slel_2 : slel Try.prog 2 = none := by kernel_rfl
@[simp] theorem isAggB_2 : isAggB Try.prog 2 = false := by kernel_rfl
@[simp] theorem tOk_2 : tOk Try.prog 2 = true := by kernel_rfl
@[simp] theorem arrOf_2 : arrOf Try.prog 2 = none := by kernel_rfl
@[simp] theorem strB_2 : strB Try.prog 2 = false := by kernel_rfl
@[simp] theorem bolB_2 : bolB Try.prog 2 = false := by kernel_rfl
@[simp] theorem mapB_2 : mapB Try.prog 2 = false := by kernel_rfl
@[simp] theorem intK_2 : intK Try.prog 2 = some IntKind.i64 := by kernel_rfl
@[simp] theorem zrow_2 : zrow Try.prog 2 = some [AV.sc (Value.int IntKind.i64 0)] := by kernel_rfl
@[simp] theorem bldOk_2 : bldOk Try.prog 2 = false := by kernel_rfl
@[simp] theorem tcs_2 : tcs Try.prog 2 = [2] := by kernel_rfl
@[simp] theorem srcT_2 : srcT Try.prog 2 = false := by kernel_rfl
@[simp] theorem zok_2 : zok Try.prog 2 = true := by kernel_rfl
@[simp] theorem flds_2 : flds Try.prog 2 = [] := by kernel_rfl
@[simp] theorem zeros_2 : zeros Try.prog 2 = some [Value.int IntKind.i64 0] := by kernel_rfl
@[simp] theorem isinfo_2 : (Try.prog.info? 2).isSome = true := by kernel_rfl
@[simp] theorem isund_2 : (Try.prog.underlying 2).isSome = true := by kernel_rfl
@[simp] theorem cellsOf_3 : Try.prog.cellsOf 3 = 1 := by kernel_rfl
@[simp] theorem bytesOf_3 : Try.prog.bytesOf 3 = 8 := by kernel_rfl
@[simp] theorem slel_3 : slel Try.prog 3 = none := by kernel_rfl
@[simp] theorem isAggB_3 : isAggB Try.prog 3 = false := by kernel_rfl
@[simp] theorem tOk_3 : tOk Try.prog 3 = true := by kernel_rfl
@[simp] theorem arrOf_3 : arrOf Try.prog 3 = none := by kernel_rfl
@[simp] theorem strB_3 : strB Try.prog 3 = false := by kernel_rfl
@[simp] theorem bolB_3 : bolB Try.prog 3 = false := by kernel_rfl
@[simp] theorem mapB_3 : mapB Try.prog 3 = false := by kernel_rfl
@[simp] theorem intK_3 : intK Try.prog 3 = some IntKind.i64 := by kernel_rfl
@[simp] theorem zrow_3 : zrow Try.prog 3 = some [AV.sc (Value.int IntKind.i64 0)] := by kernel_rfl
@[simp] theorem bldOk_3 : bldOk Try.prog 3 = false := by kernel_rfl
@[simp] theorem tcs_3 : tcs Try.prog 3 = [3] := by kernel_rfl
@[simp] theorem srcT_3 : srcT Try.prog 3 = false := by kernel_rfl
@[simp] theorem zok_3 : zok Try.prog 3 = true := by kernel_rfl
@[simp] theorem flds_3 : flds Try.prog 3 = [] := by kernel_rfl
@[simp] theorem zeros_3 : zeros Try.prog 3 = some [Value.int IntKind.i64 0] := by kernel_rfl
@[simp] theorem isinfo_3 : (Try.prog.info? 3).isSome = true := by kernel_rfl
@[simp] theorem isund_3 : (Try.prog.underlying 3).isSome = true := by kernel_rfl
@[simp] theorem cellsOf_4 : Try.prog.cellsOf 4 = 1 := by kernel_rfl
@[simp] theorem bytesOf_4 : Try.prog.bytesOf 4 = 1 := by kernel_rfl
@[simp] theorem slel_4 : slel Try.prog 4 = none := by kernel_rfl
@[simp] theorem isAggB_4 : isAggB Try.prog 4 = false := by kernel_rfl
@[simp] theorem tOk_4 : tOk Try.prog 4 = true := by kernel_rfl
@[simp] theorem arrOf_4 : arrOf Try.prog 4 = none := by kernel_rfl
@[simp] theorem strB_4 : strB Try.prog 4 = false := by kernel_rfl
@[simp] theorem bolB_4 : bolB Try.prog 4 = true := by kernel_rfl
@[simp] theorem mapB_4 : mapB Try.prog 4 = false := by kernel_rfl
@[simp] theorem intK_4 : intK Try.prog 4 = none := by kernel_rfl
@[simp] theorem zrow_4 : zrow Try.prog 4 = some [AV.sc (Value.bool false)] := by kernel_rfl
@[simp] theorem bldOk_4 : bldOk Try.prog 4 = false := by kernel_rfl
@[simp] theorem tcs_4 : tcs Try.prog 4 = [4] := by kernel_rfl
@[simp] theorem srcT_4 : srcT Try.prog 4 = false := by kernel_rfl
@[simp] theorem zok_4 : zok Try.prog 4 = true := by kernel_rfl
@[simp] theorem flds_4 : flds Try.prog 4 = [] := by kernel_rfl
@[simp] theorem zeros_4 : zeros Try.prog 4 = some [Value.bool false] := by kernel_rfl
@[simp] theorem isinfo_4 : (Try.prog.info? 4).isSome = true := by kernel_rfl
@[simp] theorem isund_4 : (Try.prog.underlying 4).isSome = true := by kernel_rfl
@[simp] theorem cellsOf_5 : Try.prog.cellsOf 5 = 1 := by kernel_rfl
@[simp] theorem bytesOf_5 : Try.prog.bytesOf 5 = 1 := by kernel_rfl
@[simp] theorem slel_5 : slel Try.prog 5 = none := by kernel_rfl
@[simp] theorem isAggB_5 : isAggB Try.prog 5 = false := by kernel_rfl
@[simp] theorem tOk_5 : tOk Try.prog 5 = true := by kernel_rfl
@[simp] theorem arrOf_5 : arrOf Try.prog 5 = none := by kernel_rfl
@[simp] theorem strB_5 : strB Try.prog 5 = false := by kernel_rfl
@[simp] theorem bolB_5 : bolB Try.prog 5 = false := by kernel_rfl
@[simp] theorem mapB_5 : mapB Try.prog 5 = false := by kernel_rfl
@[simp] theorem intK_5 : intK Try.prog 5 = some IntKind.u8 := by kernel_rfl
@[simp] theorem zrow_5 : zrow Try.prog 5 = some [AV.sc (Value.int IntKind.u8 0)] := by kernel_rfl
@[simp] theorem bldOk_5 : bldOk Try.prog 5 = false := by kernel_rfl
@[simp] theorem tcs_5 : tcs Try.prog 5 = [5] := by kernel_rfl
@[simp] theorem srcT_5 : srcT Try.prog 5 = false := by kernel_rfl
@[simp] theorem zok_5 : zok Try.prog 5 = true := by kernel_rfl
@[simp] theorem flds_5 : flds Try.prog 5 = [] := by kernel_rfl
@[simp] theorem zeros_5 : zeros Try.prog 5 = some [Value.int IntKind.u8 0] := by kernel_rfl
@[simp] theorem isinfo_5 : (Try.prog.info? 5).isSome = true := by kernel_rfl
@[simp] theorem isund_5 : (Try.prog.underlying 5).isSome = true := by kernel_rfl
@[simp] theorem cellsOf_6 : Try.prog.cellsOf 6 = 1 := by kernel_rfl
@[simp] theorem bytesOf_6 : Try.prog.bytesOf 6 = 1 := by kernel_rfl
@[simp] theorem slel_6 : slel Try.prog 6 = none := by kernel_rfl
@[simp] theorem isAggB_6 : isAggB Try.prog 6 = false := by kernel_rfl
@[simp] theorem tOk_6 : tOk Try.prog 6 = true := by kernel_rfl
@[simp] theorem arrOf_6 : arrOf Try.prog 6 = none := by kernel_rfl
@[simp] theorem strB_6 : strB Try.prog 6 = false := by kernel_rfl
@[simp] theorem bolB_6 : bolB Try.prog 6 = false := by kernel_rfl
@[simp] theorem mapB_6 : mapB Try.prog 6 = false := by kernel_rfl
@[simp] theorem intK_6 : intK Try.prog 6 = some IntKind.u8 := by kernel_rfl
@[simp] theorem zrow_6 : zrow Try.prog 6 = some [AV.sc (Value.int IntKind.u8 0)] := by kernel_rfl
@[simp] theorem bldOk_6 : bldOk Try.prog 6 = false := by kernel_rfl
@[simp] theorem tcs_6 : tcs Try.prog 6 = [6] := by kernel_rfl
@[simp] theorem srcT_6 : srcT Try.prog 6 = false := by kernel_rfl
@[simp] theorem zok_6 : zok Try.prog 6 = true := by kernel_rfl
@[simp] theorem flds_6 : flds Try.prog 6 = [] := by kernel_rfl
@[simp] theorem zeros_6 : zeros Try.prog 6 = some [Value.int IntKind.u8 0] := by kernel_rfl
@[simp] theorem isinfo_6 : (Try.prog.info? 6).isSome = true := by kernel_rfl
@[simp] theorem isund_6 : (Try.prog.underlying 6).isSome = true := by kernel_rfl
@[simp] theorem cellsOf_7 : Try.prog.cellsOf 7 = 4 := by kernel_rfl
@[simp] theorem bytesOf_7 : Try.prog.bytesOf 7 = 24 := by kernel_rfl
@[simp] theorem slel_7 : slel Try.prog 7 = none := by kernel_rfl
@[simp] theorem isAggB_7 : isAggB Try.prog 7 = true := by kernel_rfl
@[simp] theorem tOk_7 : tOk Try.prog 7 = true := by kernel_rfl
@[simp] theorem arrOf_7 : arrOf Try.prog 7 = none := by kernel_rfl
@[simp] theorem strB_7 : strB Try.prog 7 = false := by kernel_rfl
@[simp] theorem bolB_7 : bolB Try.prog 7 = false := by kernel_rfl
@[simp] theorem mapB_7 : mapB Try.prog 7 = false := by kernel_rfl
@[simp] theorem intK_7 : intK Try.prog 7 = none := by kernel_rfl
@[simp] theorem zrow_7 : zrow Try.prog 7 = some [AV.sc (Value.int IntKind.i64 0), AV.sc (Value.int IntKind.i64 0), AV.sc (Value.bool false), AV.sc (Value.int IntKind.u8 0)] := by kernel_rfl
@[simp] theorem bldOk_7 : bldOk Try.prog 7 = true := by kernel_rfl
@[simp] theorem tcs_7 : tcs Try.prog 7 = [2, 3, 4, 6] := by kernel_rfl
@[simp] theorem srcT_7 : srcT Try.prog 7 = false := by kernel_rfl
@[simp] theorem zok_7 : zok Try.prog 7 = true := by kernel_rfl
@[simp] theorem flds_7 : flds Try.prog 7 = [(0, 1, 2), (1, 1, 3), (2, 1, 4), (3, 1, 6)] := by kernel_rfl
@[simp] theorem zeros_7 : zeros Try.prog 7 = some [Value.int IntKind.i64 0, Value.int IntKind.i64 0, Value.bool false, Value.int IntKind.u8 0] := by kernel_rfl
@[simp] theorem isinfo_7 : (Try.prog.info? 7).isSome = true := by kernel_rfl
@[simp] theorem isund_7 : (Try.prog.underlying 7).isSome = true := by kernel_rfl
@[simp] theorem cellsOf_8 : Try.prog.cellsOf 8 = 4 := by kernel_rfl
@[simp] theorem bytesOf_8 : Try.prog.bytesOf 8 = 24 := by kernel_rfl
@[simp] theorem slel_8 : slel Try.prog 8 = none := by kernel_rfl
@[simp] theorem isAggB_8 : isAggB Try.prog 8 = true := by kernel_rfl
@[simp] theorem tOk_8 : tOk Try.prog 8 = true := by kernel_rfl
@[simp] theorem arrOf_8 : arrOf Try.prog 8 = none := by kernel_rfl
@[simp] theorem strB_8 : strB Try.prog 8 = false := by kernel_rfl
@[simp] theorem bolB_8 : bolB Try.prog 8 = false := by kernel_rfl
@[simp] theorem mapB_8 : mapB Try.prog 8 = false := by kernel_rfl
@[simp] theorem intK_8 : intK Try.prog 8 = none := by kernel_rfl
@[simp] theorem zrow_8 : zrow Try.prog 8 = some [AV.sc (Value.int IntKind.i64 0), AV.sc (Value.int IntKind.i64 0), AV.sc (Value.bool false), AV.sc (Value.int IntKind.u8 0)] := by kernel_rfl
@[simp] theorem bldOk_8 : bldOk Try.prog 8 = true := by kernel_rfl
@[simp] theorem tcs_8 : tcs Try.prog 8 = [2, 3, 4, 6] := by kernel_rfl
@[simp] theorem srcT_8 : srcT Try.prog 8 = false := by kernel_rfl
@[simp] theorem zok_8 : zok Try.prog 8 = true := by kernel_rfl
@[simp] theorem flds_8 : flds Try.prog 8 = [(0, 1, 2), (1, 1, 3), (2, 1, 4), (3, 1, 6)] := by kernel_rfl
@[simp] theorem zeros_8 : zeros Try.prog 8 = some [Value.int IntKind.i64 0, Value.int IntKind.i64 0, Value.bool false, Value.int IntKind.u8 0] := by kernel_rfl
@[simp] theorem isinfo_8 : (Try.prog.info? 8).isSome = true := by kernel_rfl
@[simp] theorem isund_8 : (Try.prog.underlying 8).isSome = true := by kernel_rfl
@[simp] theorem cellsOf_9 : Try.prog.cellsOf 9 = 1 := by kernel_rfl
@[simp] theorem bytesOf_9 : Try.prog.bytesOf 9 = 16 := by kernel_rfl
@[simp] theorem slel_9 : slel Try.prog 9 = none := by kernel_rfl
@[simp] theorem isAggB_9 : isAggB Try.prog 9 = false := by kernel_rfl
@[simp] theorem tOk_9 : tOk Try.prog 9 = true := by kernel_rfl
@[simp] theorem arrOf_9 : arrOf Try.prog 9 = none := by kernel_rfl
@[simp] theorem strB_9 : strB Try.prog 9 = true := by kernel_rfl
@[simp] theorem bolB_9 : bolB Try.prog 9 = false := by kernel_rfl
@[simp] theorem mapB_9 : mapB Try.prog 9 = false := by kernel_rfl
@[simp] theorem intK_9 : intK Try.prog 9 = none := by kernel_rfl
@[simp] theorem zrow_9 : zrow Try.prog 9 = some [AV.sc (Value.string { data := { toList := [] } })] := by kernel_rfl
@[simp] theorem bldOk_9 : bldOk Try.prog 9 = false := by kernel_rfl
@[simp] theorem tcs_9 : tcs Try.prog 9 = [9] := by kernel_rfl
@[simp] theorem srcT_9 : srcT Try.prog 9 = true := by kernel_rfl
@[simp] theorem zok_9 : zok Try.prog 9 = true := by kernel_rfl
@[simp] theorem flds_9 : flds Try.prog 9 = [] := by kernel_rfl
@[simp] theorem zeros_9 : zeros Try.prog 9 = some [Value.string { data := { toList := [] } }] := by kernel_rfl
@[simp] theorem isinfo_9 : (Try.prog.info? 9).isSome = true := by kernel_rfl
@[simp] theorem isund_9 : (Try.prog.underlying 9).isSome = true := by kernel_rfl
@[simp] theorem cellsOf_10 : Try.prog.cellsOf 10 = 1 := by kernel_rfl
@[simp] theorem bytesOf_10 : Try.prog.bytesOf 10 = 16 := by kernel_rfl
@[simp] theorem slel_10 : slel Try.prog 10 = none := by kernel_rfl
@[simp] theorem isAggB_10 : isAggB Try.prog 10 = false := by kernel_rfl
@[simp] theorem tOk_10 : tOk Try.prog 10 = true := by kernel_rfl
@[simp] theorem arrOf_10 : arrOf Try.prog 10 = none := by kernel_rfl
@[simp] theorem strB_10 : strB Try.prog 10 = true := by kernel_rfl
@[simp] theorem bolB_10 : bolB Try.prog 10 = false := by kernel_rfl
@[simp] theorem mapB_10 : mapB Try.prog 10 = false := by kernel_rfl
@[simp] theorem intK_10 : intK Try.prog 10 = none := by kernel_rfl
@[simp] theorem zrow_10 : zrow Try.prog 10 = some [AV.sc (Value.string { data := { toList := [] } })] := by kernel_rfl
@[simp] theorem bldOk_10 : bldOk Try.prog 10 = false := by kernel_rfl
@[simp] theorem tcs_10 : tcs Try.prog 10 = [10] := by kernel_rfl
@[simp] theorem srcT_10 : srcT Try.prog 10 = true := by kernel_rfl
@[simp] theorem zok_10 : zok Try.prog 10 = true := by kernel_rfl
@[simp] theorem flds_10 : flds Try.prog 10 = [] := by kernel_rfl
@[simp] theorem zeros_10 : zeros Try.prog 10 = some [Value.string { data := { toList := [] } }] := by kernel_rfl
@[simp] theorem isinfo_10 : (Try.prog.info? 10).isSome = true := by kernel_rfl
@[simp] theorem isund_10 : (Try.prog.underlying 10).isSome = true := by kernel_rfl
@[simp] theorem cellsOf_11 : Try.prog.cellsOf 11 = 1 := by kernel_rfl
@[simp] theorem bytesOf_11 : Try.prog.bytesOf 11 = 16 := by kernel_rfl
@[simp] theorem slel_11 : slel Try.prog 11 = none := by kernel_rfl
@[simp] theorem isAggB_11 : isAggB Try.prog 11 = false := by kernel_rfl
@[simp] theorem tOk_11 : tOk Try.prog 11 = true := by kernel_rfl
@[simp] theorem arrOf_11 : arrOf Try.prog 11 = none := by kernel_rfl
@[simp] theorem strB_11 : strB Try.prog 11 = true := by kernel_rfl
@[simp] theorem bolB_11 : bolB Try.prog 11 = false := by kernel_rfl
@[simp] theorem mapB_11 : mapB Try.prog 11 = false := by kernel_rfl
@[simp] theorem intK_11 : intK Try.prog 11 = none := by kernel_rfl
@[simp] theorem zrow_11 : zrow Try.prog 11 = some [AV.sc (Value.string { data := { toList := [] } })] := by kernel_rfl
@[simp] theorem bldOk_11 : bldOk Try.prog 11 = false := by kernel_rfl
@[simp] theorem tcs_11 : tcs Try.prog 11 = [11] := by kernel_rfl
@[simp] theorem srcT_11 : srcT Try.prog 11 = true := by kernel_rfl
@[simp] theorem zok_11 : zok Try.prog 11 = true := by kernel_rfl
@[simp] theorem flds_11 : flds Try.prog 11 = [] := by kernel_rfl
@[simp] theorem zeros_11 : zeros Try.prog 11 = some [Value.string { data := { toList := [] } }] := by kernel_rfl
@[simp] theorem isinfo_11 : (Try.prog.info? 11).isSome = true := by kernel_rfl
@[simp] theorem isund_11 : (Try.prog.underlying 11).isSome = true := by kernel_rfl
@[simp] theorem cellsOf_12 : Try.prog.cellsOf 12 = 1 := by kernel_rfl
@[simp] theorem bytesOf_12 : Try.prog.bytesOf 12 = 8 := by kernel_rfl
@[simp] theorem slel_12 : slel Try.prog 12 = none := by kernel_rfl
@[simp] theorem isAggB_12 : isAggB Try.prog 12 = false := by kernel_rfl
@[simp] theorem tOk_12 : tOk Try.prog 12 = true := by kernel_rfl
@[simp] theorem arrOf_12 : arrOf Try.prog 12 = none := by kernel_rfl
@[simp] theorem strB_12 : strB Try.prog 12 = false := by kernel_rfl
@[simp] theorem bolB_12 : bolB Try.prog 12 = false := by kernel_rfl
@[simp] theorem mapB_12 : mapB Try.prog 12 = false := by kernel_rfl
@[simp] theorem intK_12 : intK Try.prog 12 = some IntKind.u64 := by kernel_rfl
@[simp] theorem zrow_12 : zrow Try.prog 12 = some [AV.sc (Value.int IntKind.u64 0)] := by kernel_rfl
@[simp] theorem bldOk_12 : bldOk Try.prog 12 = false := by kernel_rfl
@[simp] theorem tcs_12 : tcs Try.prog 12 = [12] := by kernel_rfl
@[simp] theorem srcT_12 : srcT Try.prog 12 = false := by kernel_rfl
@[simp] theorem zok_12 : zok Try.prog 12 = true := by kernel_rfl
@[simp] theorem flds_12 : flds Try.prog 12 = [] := by kernel_rfl
@[simp] theorem zeros_12 : zeros Try.prog 12 = some [Value.int IntKind.u64 0] := by kernel_rfl
@[simp] theorem isinfo_12 : (Try.prog.info? 12).isSome = true := by kernel_rfl
@[simp] theorem isund_12 : (Try.prog.underlying 12).isSome = true := by kernel_rfl
@[simp] theorem cellsOf_13 : Try.prog.cellsOf 13 = 2 := by kernel_rfl
@[simp] theorem bytesOf_13 : Try.prog.bytesOf 13 = 24 := by kernel_rfl
@[simp] theorem slel_13 : slel Try.prog 13 = none := by kernel_rfl
@[simp] theorem isAggB_13 : isAggB Try.prog 13 = true := by kernel_rfl
@[simp] theorem tOk_13 : tOk Try.prog 13 = true := by kernel_rfl
@[simp] theorem arrOf_13 : arrOf Try.prog 13 = none := by kernel_rfl
@[simp] theorem strB_13 : strB Try.prog 13 = false := by kernel_rfl
@[simp] theorem bolB_13 : bolB Try.prog 13 = false := by kernel_rfl
@[simp] theorem mapB_13 : mapB Try.prog 13 = false := by kernel_rfl
@[simp] theorem intK_13 : intK Try.prog 13 = none := by kernel_rfl
@[simp] theorem zrow_13 : zrow Try.prog 13 = some [AV.sc (Value.string { data := { toList := [] } }), AV.sc (Value.int IntKind.u64 0)] := by kernel_rfl
@[simp] theorem bldOk_13 : bldOk Try.prog 13 = true := by kernel_rfl
@[simp] theorem tcs_13 : tcs Try.prog 13 = [9, 12] := by kernel_rfl
@[simp] theorem srcT_13 : srcT Try.prog 13 = false := by kernel_rfl
@[simp] theorem zok_13 : zok Try.prog 13 = true := by kernel_rfl
@[simp] theorem flds_13 : flds Try.prog 13 = [(0, 1, 9), (1, 1, 12)] := by kernel_rfl
@[simp] theorem zeros_13 : zeros Try.prog 13 = some [Value.string { data := { toList := [] } }, Value.int IntKind.u64 0] := by kernel_rfl
@[simp] theorem isinfo_13 : (Try.prog.info? 13).isSome = true := by kernel_rfl
@[simp] theorem isund_13 : (Try.prog.underlying 13).isSome = true := by kernel_rfl
@[simp] theorem cellsOf_14 : Try.prog.cellsOf 14 = 2 := by kernel_rfl
@[simp] theorem bytesOf_14 : Try.prog.bytesOf 14 = 24 := by kernel_rfl
@[simp] theorem slel_14 : slel Try.prog 14 = none := by kernel_rfl
@[simp] theorem isAggB_14 : isAggB Try.prog 14 = true := by kernel_rfl
@[simp] theorem tOk_14 : tOk Try.prog 14 = true := by kernel_rfl
@[simp] theorem arrOf_14 : arrOf Try.prog 14 = none := by kernel_rfl
@[simp] theorem strB_14 : strB Try.prog 14 = false := by kernel_rfl
@[simp] theorem bolB_14 : bolB Try.prog 14 = false := by kernel_rfl
@[simp] theorem mapB_14 : mapB Try.prog 14 = false := by kernel_rfl
@[simp] theorem intK_14 : intK Try.prog 14 = none := by kernel_rfl
@[simp] theorem zrow_14 : zrow Try.prog 14 = some [AV.sc (Value.string { data := { toList := [] } }), AV.sc (Value.int IntKind.u64 0)] := by kernel_rfl
@[simp] theorem bldOk_14 : bldOk Try.prog 14 = true := by kernel_rfl
@[simp] theorem tcs_14 : tcs Try.prog 14 = [9, 12] := by kernel_rfl
@[simp] theorem srcT_14 : srcT Try.prog 14 = false := by kernel_rfl
@[simp] theorem zok_14 : zok Try.prog 14 = true := by kernel_rfl
@[simp] theorem flds_14 : flds Try.prog 14 = [(0, 1, 9), (1, 1, 12)] := by kernel_rfl
@[simp] theorem zeros_14 : zeros Try.prog 14 = some [Value.string { data := { toList := [] } }, Value.int IntKind.u64 0] := by kernel_rfl
@[simp] theorem isinfo_14 : (Try.prog.info? 14).isSome = true := by kernel_rfl
@[simp] theorem isund_14 : (Try.prog.underlying 14).isSome = true := by kernel_rfl
@[simp] theorem cellsOf_15 : Try.prog.cellsOf 15 = 1 := by kernel_rfl
@[simp] theorem bytesOf_15 : Try.prog.bytesOf 15 = 8 := by kernel_rfl
@[simp] theorem slel_15 : slel Try.prog 15 = none := by kernel_rfl
@[simp] theorem isAggB_15 : isAggB Try.prog 15 = false := by kernel_rfl
@[simp] theorem tOk_15 : tOk Try.prog 15 = true := by kernel_rfl
@[simp] theorem arrOf_15 : arrOf Try.prog 15 = none := by kernel_rfl
@[simp] theorem strB_15 : strB Try.prog 15 = false := by kernel_rfl
@[simp] theorem bolB_15 : bolB Try.prog 15 = false := by kernel_rfl
@[simp] theorem mapB_15 : mapB Try.prog 15 = false := by kernel_rfl
@[simp] theorem intK_15 : intK Try.prog 15 = none := by kernel_rfl
@[simp] theorem zrow_15 : zrow Try.prog 15 = some [AV.sc (Value.pointer none)] := by kernel_rfl
@[simp] theorem bldOk_15 : bldOk Try.prog 15 = false := by kernel_rfl
@[simp] theorem tcs_15 : tcs Try.prog 15 = [15] := by kernel_rfl
@[simp] theorem srcT_15 : srcT Try.prog 15 = false := by kernel_rfl
@[simp] theorem zok_15 : zok Try.prog 15 = true := by kernel_rfl
@[simp] theorem flds_15 : flds Try.prog 15 = [] := by kernel_rfl
@[simp] theorem zeros_15 : zeros Try.prog 15 = some [Value.pointer none] := by kernel_rfl
@[simp] theorem isinfo_15 : (Try.prog.info? 15).isSome = true := by kernel_rfl
@[simp] theorem isund_15 : (Try.prog.underlying 15).isSome = true := by kernel_rfl
@[simp] theorem cellsOf_16 : Try.prog.cellsOf 16 = 1 := by kernel_rfl
@[simp] theorem bytesOf_16 : Try.prog.bytesOf 16 = 8 := by kernel_rfl
@[simp] theorem slel_16 : slel Try.prog 16 = none := by kernel_rfl
@[simp] theorem isAggB_16 : isAggB Try.prog 16 = false := by kernel_rfl
@[simp] theorem tOk_16 : tOk Try.prog 16 = true := by kernel_rfl
@[simp] theorem arrOf_16 : arrOf Try.prog 16 = none := by kernel_rfl
@[simp] theorem strB_16 : strB Try.prog 16 = false := by kernel_rfl
@[simp] theorem bolB_16 : bolB Try.prog 16 = false := by kernel_rfl
@[simp] theorem mapB_16 : mapB Try.prog 16 = false := by kernel_rfl
@[simp] theorem intK_16 : intK Try.prog 16 = none := by kernel_rfl
@[simp] theorem zrow_16 : zrow Try.prog 16 = some [AV.sc (Value.pointer none)] := by kernel_rfl
@[simp] theorem bldOk_16 : bldOk Try.prog 16 = false := by kernel_rfl
@[simp] theorem tcs_16 : tcs Try.prog 16 = [16] := by kernel_rfl
@[simp] theorem srcT_16 : srcT Try.prog 16 = false := by kernel_rfl
@[simp] theorem zok_16 : zok Try.prog 16 = true := by kernel_rfl
@[simp] theorem flds_16 : flds Try.prog 16 = [] := by kernel_rfl
@[simp] theorem zeros_16 : zeros Try.prog 16 = some [Value.pointer none] := by kernel_rfl
@[simp] theorem isinfo_16 : (Try.prog.info? 16).isSome = true := by kernel_rfl
@[simp] theorem isund_16 : (Try.prog.underlying 16).isSome = true := by kernel_rfl
@[simp] theorem cellsOf_17 : Try.prog.cellsOf 17 = 1 := by kernel_rfl
@[simp] theorem bytesOf_17 : Try.prog.bytesOf 17 = 8 := by kernel_rfl
@[simp] theorem slel_17 : slel Try.prog 17 = none := by kernel_rfl
@[simp] theorem isAggB_17 : isAggB Try.prog 17 = false := by kernel_rfl
@[simp] theorem tOk_17 : tOk Try.prog 17 = true := by kernel_rfl
@[simp] theorem arrOf_17 : arrOf Try.prog 17 = none := by kernel_rfl
@[simp] theorem strB_17 : strB Try.prog 17 = false := by kernel_rfl
@[simp] theorem bolB_17 : bolB Try.prog 17 = false := by kernel_rfl
@[simp] theorem mapB_17 : mapB Try.prog 17 = false := by kernel_rfl
@[simp] theorem intK_17 : intK Try.prog 17 = none := by kernel_rfl
@[simp] theorem zrow_17 : zrow Try.prog 17 = some [AV.sc (Value.pointer none)] := by kernel_rfl
@[simp] theorem bldOk_17 : bldOk Try.prog 17 = false := by kernel_rfl
@[simp] theorem tcs_17 : tcs Try.prog 17 = [17] := by kernel_rfl
@[simp] theorem srcT_17 : srcT Try.prog 17 = false := by kernel_rfl
@[simp] theorem zok_17 : zok Try.prog 17 = true := by kernel_rfl
@[simp] theorem flds_17 : flds Try.prog 17 = [] := by kernel_rfl
@[simp] theorem zeros_17 : zeros Try.prog 17 = some [Value.pointer none] := by kernel_rfl
@[simp] theorem isinfo_17 : (Try.prog.info? 17).isSome = true := by kernel_rfl
@[simp] theorem isund_17 : (Try.prog.underlying 17).isSome = true := by kernel_rfl
@[simp] theorem cellsOf_18 : Try.prog.cellsOf 18 = 1 := by kernel_rfl
@[simp] theorem bytesOf_18 : Try.prog.bytesOf 18 = 8 := by kernel_rfl
@[simp] theorem slel_18 : slel Try.prog 18 = none := by kernel_rfl
@[simp] theorem isAggB_18 : isAggB Try.prog 18 = true := by kernel_rfl
@[simp] theorem tOk_18 : tOk Try.prog 18 = true := by kernel_rfl
@[simp] theorem arrOf_18 : arrOf Try.prog 18 = none := by kernel_rfl
@[simp] theorem strB_18 : strB Try.prog 18 = false := by kernel_rfl
@[simp] theorem bolB_18 : bolB Try.prog 18 = false := by kernel_rfl
@[simp] theorem mapB_18 : mapB Try.prog 18 = false := by kernel_rfl
@[simp] theorem intK_18 : intK Try.prog 18 = none := by kernel_rfl
@[simp] theorem zrow_18 : zrow Try.prog 18 = some [AV.sc (Value.pointer none)] := by kernel_rfl
@[simp] theorem bldOk_18 : bldOk Try.prog 18 = true := by kernel_rfl
@[simp] theorem tcs_18 : tcs Try.prog 18 = [17] := by kernel_rfl
@[simp] theorem srcT_18 : srcT Try.prog 18 = false := by kernel_rfl
@[simp] theorem zok_18 : zok Try.prog 18 = true := by kernel_rfl
@[simp] theorem flds_18 : flds Try.prog 18 = [(0, 1, 17)] := by kernel_rfl
@[simp] theorem zeros_18 : zeros Try.prog 18 = some [Value.pointer none] := by kernel_rfl
@[simp] theorem isinfo_18 : (Try.prog.info? 18).isSome = true := by kernel_rfl
@[simp] theorem isund_18 : (Try.prog.underlying 18).isSome = true := by kernel_rfl
@[simp] theorem cellsOf_19 : Try.prog.cellsOf 19 = 1 := by kernel_rfl
@[simp] theorem bytesOf_19 : Try.prog.bytesOf 19 = 8 := by kernel_rfl
@[simp] theorem slel_19 : slel Try.prog 19 = none := by kernel_rfl
@[simp] theorem isAggB_19 : isAggB Try.prog 19 = true := by kernel_rfl
@[simp] theorem tOk_19 : tOk Try.prog 19 = true := by kernel_rfl
@[simp] theorem arrOf_19 : arrOf Try.prog 19 = none := by kernel_rfl
@[simp] theorem strB_19 : strB Try.prog 19 = false := by kernel_rfl
@[simp] theorem bolB_19 : bolB Try.prog 19 = false := by kernel_rfl
@[simp] theorem mapB_19 : mapB Try.prog 19 = false := by kernel_rfl
@[simp] theorem intK_19 : intK Try.prog 19 = none := by kernel_rfl
@[simp] theorem zrow_19 : zrow Try.prog 19 = some [AV.sc (Value.pointer none)] := by kernel_rfl
@[simp] theorem bldOk_19 : bldOk Try.prog 19 = true := by kernel_rfl
@[simp] theorem tcs_19 : tcs Try.prog 19 = [17] := by kernel_rfl
@[simp] theorem srcT_19 : srcT Try.prog 19 = false := by kernel_rfl
@[simp] theorem zok_19 : zok Try.prog 19 = true := by kernel_rfl
@[simp] theorem flds_19 : flds Try.prog 19 = [(0, 1, 17)] := by kernel_rfl
@[simp] theorem zeros_19 : zeros Try.prog 19 = some [Value.pointer none] := by kernel_rfl
@[simp] theorem isinfo_19 : (Try.prog.info? 19).isSome = true := by kernel_rfl
@[simp] theorem isund_19 : (Try.prog.underlying 19).isSome = true := by kernel_rfl
@[simp] theorem cellsOf_20 : Try.prog.cellsOf 20 = 1 := by kernel_rfl
@[simp] theorem bytesOf_20 : Try.prog.bytesOf 20 = 16 := by kernel_rfl
@[simp] theorem slel_20 : slel Try.prog 20 = none := by kernel_rfl
@[simp] theorem isAggB_20 : isAggB Try.prog 20 = false := by kernel_rfl
@[simp] theorem tOk_20 : tOk Try.prog 20 = true := by kernel_rfl
@[simp] theorem arrOf_20 : arrOf Try.prog 20 = none := by kernel_rfl
@[simp] theorem strB_20 : strB Try.prog 20 = false := by kernel_rfl
@[simp] theorem bolB_20 : bolB Try.prog 20 = false := by kernel_rfl
@[simp] theorem mapB_20 : mapB Try.prog 20 = false := by kernel_rfl
@[simp] theorem intK_20 : intK Try.prog 20 = none := by kernel_rfl
@[simp] theorem zrow_20 : zrow Try.prog 20 = some [AV.sc Value.nilIface] := by kernel_rfl
@[simp] theorem bldOk_20 : bldOk Try.prog 20 = false := by kernel_rfl
@[simp] theorem tcs_20 : tcs Try.prog 20 = [20] := by kernel_rfl
@[simp] theorem srcT_20 : srcT Try.prog 20 = false := by kernel_rfl
@[simp] theorem zok_20 : zok Try.prog 20 = true := by kernel_rfl
@[simp] theorem flds_20 : flds Try.prog 20 = [] := by kernel_rfl
@[simp] theorem zeros_20 : zeros Try.prog 20 = some [Value.nilIface] := by kernel_rfl
@[simp] theorem isinfo_20 : (Try.prog.info? 20).isSome = true := by kernel_rfl
@[simp] theorem isund_20 : (Try.prog.underlying 20).isSome = true := by kernel_rfl
@[simp] theorem cellsOf_21 : Try.prog.cellsOf 21 = 1 := by kernel_rfl
@[simp] theorem bytesOf_21 : Try.prog.bytesOf 21 = 4 := by kernel_rfl
@[simp] theorem slel_21 : slel Try.prog 21 = none := by kernel_rfl
@[simp] theorem isAggB_21 : isAggB Try.prog 21 = false := by kernel_rfl
@[simp] theorem tOk_21 : tOk Try.prog 21 = true := by kernel_rfl
@[simp] theorem arrOf_21 : arrOf Try.prog 21 = none := by kernel_rfl
@[simp] theorem strB_21 : strB Try.prog 21 = false := by kernel_rfl
@[simp] theorem bolB_21 : bolB Try.prog 21 = false := by kernel_rfl
@[simp] theorem mapB_21 : mapB Try.prog 21 = false := by kernel_rfl
@[simp] theorem intK_21 : intK Try.prog 21 = some IntKind.i32 := by kernel_rfl
@[simp] theorem zrow_21 : zrow Try.prog 21 = some [AV.sc (Value.int IntKind.i32 0)] := by kernel_rfl
@[simp] theorem bldOk_21 : bldOk Try.prog 21 = false := by kernel_rfl
@[simp] theorem tcs_21 : tcs Try.prog 21 = [21] := by kernel_rfl
@[simp] theorem srcT_21 : srcT Try.prog 21 = false := by kernel_rfl
@[simp] theorem zok_21 : zok Try.prog 21 = true := by kernel_rfl
@[simp] theorem flds_21 : flds Try.prog 21 = [] := by kernel_rfl
@[simp] theorem zeros_21 : zeros Try.prog 21 = some [Value.int IntKind.i32 0] := by kernel_rfl
@[simp] theorem isinfo_21 : (Try.prog.info? 21).isSome = true := by kernel_rfl
@[simp] theorem isund_21 : (Try.prog.underlying 21).isSome = true := by kernel_rfl
@[simp] theorem cellsOf_22 : Try.prog.cellsOf 22 = 1 := by kernel_rfl
@[simp] theorem bytesOf_22 : Try.prog.bytesOf 22 = 24 := by kernel_rfl
@[simp] theorem slel_22 : slel Try.prog 22 = some 36 := by kernel_rfl
@[simp] theorem isAggB_22 : isAggB Try.prog 22 = false := by kernel_rfl
@[simp] theorem tOk_22 : tOk Try.prog 22 = true := by kernel_rfl
@[simp] theorem arrOf_22 : arrOf Try.prog 22 = none := by kernel_rfl
@[simp] theorem strB_22 : strB Try.prog 22 = false := by kernel_rfl
@[simp] theorem bolB_22 : bolB Try.prog 22 = false := by kernel_rfl
@[simp] theorem mapB_22 : mapB Try.prog 22 = false := by kernel_rfl
@[simp] theorem intK_22 : intK Try.prog 22 = none := by kernel_rfl
@[simp] theorem zrow_22 : zrow Try.prog 22 = some [AV.sl false 1 []] := by kernel_rfl
@[simp] theorem bldOk_22 : bldOk Try.prog 22 = false := by kernel_rfl
@[simp] theorem tcs_22 : tcs Try.prog 22 = [22] := by kernel_rfl
@[simp] theorem srcT_22 : srcT Try.prog 22 = true := by kernel_rfl
@[simp] theorem zok_22 : zok Try.prog 22 = true := by kernel_rfl
@[simp] theorem flds_22 : flds Try.prog 22 = [] := by kernel_rfl
@[simp] theorem zeros_22 : zeros Try.prog 22 = some [Value.slice none 0 0] := by kernel_rfl
@[simp] theorem isinfo_22 : (Try.prog.info? 22).isSome = true := by kernel_rfl
@[simp] theorem isund_22 : (Try.prog.underlying 22).isSome = true := by kernel_rfl
@[simp] theorem cellsOf_23 : Try.prog.cellsOf 23 = 1 := by kernel_rfl
@[simp] theorem bytesOf_23 : Try.prog.bytesOf 23 = 8 := by kernel_rfl
@[simp] theorem slel_23 : slel Try.prog 23 = none := by kernel_rfl
@[simp] theorem isAggB_23 : isAggB Try.prog 23 = false := by kernel_rfl
@[simp] theorem tOk_23 : tOk Try.prog 23 = true := by kernel_rfl
@[simp] theorem arrOf_23 : arrOf Try.prog 23 = none := by kernel_rfl
@[simp] theorem strB_23 : strB Try.prog 23 = false := by kernel_rfl
@[simp] theorem bolB_23 : bolB Try.prog 23 = false := by kernel_rfl
@[simp] theorem mapB_23 : mapB Try.prog 23 = false := by kernel_rfl
@[simp] theorem intK_23 : intK Try.prog 23 = none := by kernel_rfl
@[simp] theorem zrow_23 : zrow Try.prog 23 = some [AV.sc Value.nilFunc] := by kernel_rfl
@[simp] theorem bldOk_23 : bldOk Try.prog 23 = false := by kernel_rfl
@[simp] theorem tcs_23 : tcs Try.prog 23 = [23] := by kernel_rfl
@[simp] theorem srcT_23 : srcT Try.prog 23 = false := by kernel_rfl
@[simp] theorem zok_23 : zok Try.prog 23 = true := by kernel_rfl
@[simp] theorem flds_23 : flds Try.prog 23 = [] := by kernel_rfl
@[simp] theorem zeros_23 : zeros Try.prog 23 = some [Value.nilFunc] := by kernel_rfl
@[simp] theorem isinfo_23 : (Try.prog.info? 23).isSome = true := by kernel_rfl
@[simp] theorem isund_23 : (Try.prog.underlying 23).isSome = true := by kernel_rfl
@[simp] theorem cellsOf_24 : Try.prog.cellsOf 24 = 1 := by kernel_rfl
@[simp] theorem bytesOf_24 : Try.prog.bytesOf 24 = 8 := by kernel_rfl
@[simp] theorem slel_24 : slel Try.prog 24 = none := by kernel_rfl
@[simp] theorem isAggB_24 : isAggB Try.prog 24 = false := by kernel_rfl
@[simp] theorem tOk_24 : tOk Try.prog 24 = true := by kernel_rfl
@[simp] theorem arrOf_24 : arrOf Try.prog 24 = none := by kernel_rfl
@[simp] theorem strB_24 : strB Try.prog 24 = false := by kernel_rfl
@[simp] theorem bolB_24 : bolB Try.prog 24 = false := by kernel_rfl
@[simp] theorem mapB_24 : mapB Try.prog 24 = false := by kernel_rfl
@[simp] theorem intK_24 : intK Try.prog 24 = some IntKind.i64 := by kernel_rfl
@[simp] theorem zrow_24 : zrow Try.prog 24 = some [AV.sc (Value.int IntKind.i64 0)] := by kernel_rfl
@[simp] theorem bldOk_24 : bldOk Try.prog 24 = false := by kernel_rfl
@[simp] theorem tcs_24 : tcs Try.prog 24 = [24] := by kernel_rfl
@[simp] theorem srcT_24 : srcT Try.prog 24 = false := by kernel_rfl
@[simp] theorem zok_24 : zok Try.prog 24 = true := by kernel_rfl
@[simp] theorem flds_24 : flds Try.prog 24 = [] := by kernel_rfl
@[simp] theorem zeros_24 : zeros Try.prog 24 = some [Value.int IntKind.i64 0] := by kernel_rfl
@[simp] theorem isinfo_24 : (Try.prog.info? 24).isSome = true := by kernel_rfl
@[simp] theorem isund_24 : (Try.prog.underlying 24).isSome = true := by kernel_rfl
@[simp] theorem cellsOf_25 : Try.prog.cellsOf 25 = 1 := by kernel_rfl
@[simp] theorem bytesOf_25 : Try.prog.bytesOf 25 = 0 := by kernel_rfl
@[simp] theorem slel_25 : slel Try.prog 25 = none := by kernel_rfl
@[simp] theorem isAggB_25 : isAggB Try.prog 25 = false := by kernel_rfl
@[simp] theorem tOk_25 : tOk Try.prog 25 = true := by kernel_rfl
@[simp] theorem arrOf_25 : arrOf Try.prog 25 = none := by kernel_rfl
@[simp] theorem strB_25 : strB Try.prog 25 = false := by kernel_rfl
@[simp] theorem bolB_25 : bolB Try.prog 25 = false := by kernel_rfl
@[simp] theorem mapB_25 : mapB Try.prog 25 = false := by kernel_rfl
@[simp] theorem intK_25 : intK Try.prog 25 = none := by kernel_rfl
@[simp] theorem zrow_25 : zrow Try.prog 25 = none := by kernel_rfl
@[simp] theorem bldOk_25 : bldOk Try.prog 25 = false := by kernel_rfl
@[simp] theorem tcs_25 : tcs Try.prog 25 = [25] := by kernel_rfl
@[simp] theorem srcT_25 : srcT Try.prog 25 = false := by kernel_rfl
@[simp] theorem zok_25 : zok Try.prog 25 = true := by kernel_rfl
@[simp] theorem flds_25 : flds Try.prog 25 = [] := by kernel_rfl
@[simp] theorem zeros_25 : zeros Try.prog 25 = some [Value.tuple { toList := [Value.string { data := { toList := [] } }, Value.int IntKind.i64 0] }] := by kernel_rfl
@[simp] theorem isinfo_25 : (Try.prog.info? 25).isSome = true := by kernel_rfl
@[simp] theorem isund_25 : (Try.prog.underlying 25).isSome = true := by kernel_rfl
@[simp] theorem cellsOf_26 : Try.prog.cellsOf 26 = 1 := by kernel_rfl
@[simp] theorem bytesOf_26 : Try.prog.bytesOf 26 = 8 := by kernel_rfl
@[simp] theorem slel_26 : slel Try.prog 26 = none := by kernel_rfl
@[simp] theorem isAggB_26 : isAggB Try.prog 26 = false := by kernel_rfl
@[simp] theorem tOk_26 : tOk Try.prog 26 = true := by kernel_rfl
@[simp] theorem arrOf_26 : arrOf Try.prog 26 = none := by kernel_rfl
@[simp] theorem strB_26 : strB Try.prog 26 = false := by kernel_rfl
@[simp] theorem bolB_26 : bolB Try.prog 26 = false := by kernel_rfl
@[simp] theorem mapB_26 : mapB Try.prog 26 = false := by kernel_rfl
@[simp] theorem intK_26 : intK Try.prog 26 = none := by kernel_rfl
@[simp] theorem zrow_26 : zrow Try.prog 26 = some [AV.sc Value.nilFunc] := by kernel_rfl
@[simp] theorem bldOk_26 : bldOk Try.prog 26 = false := by kernel_rfl
@[simp] theorem tcs_26 : tcs Try.prog 26 = [26] := by kernel_rfl
@[simp] theorem srcT_26 : srcT Try.prog 26 = false := by kernel_rfl
@[simp] theorem zok_26 : zok Try.prog 26 = true := by kernel_rfl
@[simp] theorem flds_26 : flds Try.prog 26 = [] := by kernel_rfl
@[simp] theorem zeros_26 : zeros Try.prog 26 = some [Value.nilFunc] := by kernel_rfl
@[simp] theorem isinfo_26 : (Try.prog.info? 26).isSome = true := by kernel_rfl
@[simp] theorem isund_26 : (Try.prog.underlying 26).isSome = true := by kernel_rfl
@[simp] theorem cellsOf_27 : Try.prog.cellsOf 27 = 2 := by kernel_rfl
@[simp] theorem bytesOf_27 : Try.prog.bytesOf 27 = 32 := by kernel_rfl
@[simp] theorem slel_27 : slel Try.prog 27 = none := by kernel_rfl
@[simp] theorem isAggB_27 : isAggB Try.prog 27 = true := by kernel_rfl
@[simp] theorem tOk_27 : tOk Try.prog 27 = true := by kernel_rfl
@[simp] theorem arrOf_27 : arrOf Try.prog 27 = none := by kernel_rfl
@[simp] theorem strB_27 : strB Try.prog 27 = false := by kernel_rfl
@[simp] theorem bolB_27 : bolB Try.prog 27 = false := by kernel_rfl
@[simp] theorem mapB_27 : mapB Try.prog 27 = false := by kernel_rfl
@[simp] theorem intK_27 : intK Try.prog 27 = none := by kernel_rfl
@[simp] theorem zrow_27 : zrow Try.prog 27 = some [AV.sl false 1 [], AV.sc (Value.int IntKind.i64 0)] := by kernel_rfl
@[simp] theorem bldOk_27 : bldOk Try.prog 27 = true := by kernel_rfl
@[simp] theorem tcs_27 : tcs Try.prog 27 = [22, 3] := by kernel_rfl
@[simp] theorem srcT_27 : srcT Try.prog 27 = false := by kernel_rfl
@[simp] theorem zok_27 : zok Try.prog 27 = true := by kernel_rfl
@[simp] theorem flds_27 : flds Try.prog 27 = [(0, 1, 22), (1, 1, 3)] := by kernel_rfl
@[simp] theorem zeros_27 : zeros Try.prog 27 = some [Value.slice none 0 0, Value.int IntKind.i64 0] := by kernel_rfl
@[simp] theorem isinfo_27 : (Try.prog.info? 27).isSome = true := by kernel_rfl
@[simp] theorem isund_27 : (Try.prog.underlying 27).isSome = true := by kernel_rfl
@[simp] theorem cellsOf_28 : Try.prog.cellsOf 28 = 2 := by kernel_rfl
@[simp] theorem bytesOf_28 : Try.prog.bytesOf 28 = 32 := by kernel_rfl
@[simp] theorem slel_28 : slel Try.prog 28 = none := by kernel_rfl
@[simp] theorem isAggB_28 : isAggB Try.prog 28 = true := by kernel_rfl
@[simp] theorem tOk_28 : tOk Try.prog 28 = true := by kernel_rfl
@[simp] theorem arrOf_28 : arrOf Try.prog 28 = none := by kernel_rfl
@[simp] theorem strB_28 : strB Try.prog 28 = false := by kernel_rfl
@[simp] theorem bolB_28 : bolB Try.prog 28 = false := by kernel_rfl
@[simp] theorem mapB_28 : mapB Try.prog 28 = false := by kernel_rfl
@[simp] theorem intK_28 : intK Try.prog 28 = none := by kernel_rfl
@[simp] theorem zrow_28 : zrow Try.prog 28 = some [AV.sl false 1 [], AV.sc (Value.int IntKind.i64 0)] := by kernel_rfl
@[simp] theorem bldOk_28 : bldOk Try.prog 28 = true := by kernel_rfl
@[simp] theorem tcs_28 : tcs Try.prog 28 = [22, 3] := by kernel_rfl
@[simp] theorem srcT_28 : srcT Try.prog 28 = false := by kernel_rfl
@[simp] theorem zok_28 : zok Try.prog 28 = true := by kernel_rfl
@[simp] theorem flds_28 : flds Try.prog 28 = [(0, 1, 22), (1, 1, 3)] := by kernel_rfl
@[simp] theorem zeros_28 : zeros Try.prog 28 = some [Value.slice none 0 0, Value.int IntKind.i64 0] := by kernel_rfl
@[simp] theorem isinfo_28 : (Try.prog.info? 28).isSome = true := by kernel_rfl
@[simp] theorem isund_28 : (Try.prog.underlying 28).isSome = true := by kernel_rfl
@[simp] theorem cellsOf_29 : Try.prog.cellsOf 29 = 1 := by kernel_rfl
@[simp] theorem bytesOf_29 : Try.prog.bytesOf 29 = 0 := by kernel_rfl
@[simp] theorem slel_29 : slel Try.prog 29 = none := by kernel_rfl
@[simp] theorem isAggB_29 : isAggB Try.prog 29 = false := by kernel_rfl
@[simp] theorem tOk_29 : tOk Try.prog 29 = true := by kernel_rfl
@[simp] theorem arrOf_29 : arrOf Try.prog 29 = none := by kernel_rfl
@[simp] theorem strB_29 : strB Try.prog 29 = false := by kernel_rfl
@[simp] theorem bolB_29 : bolB Try.prog 29 = false := by kernel_rfl
@[simp] theorem mapB_29 : mapB Try.prog 29 = false := by kernel_rfl
@[simp] theorem intK_29 : intK Try.prog 29 = none := by kernel_rfl
@[simp] theorem zrow_29 : zrow Try.prog 29 = none := by kernel_rfl
@[simp] theorem bldOk_29 : bldOk Try.prog 29 = false := by kernel_rfl
@[simp] theorem tcs_29 : tcs Try.prog 29 = [29] := by kernel_rfl
@[simp] theorem srcT_29 : srcT Try.prog 29 = false := by kernel_rfl
@[simp] theorem zok_29 : zok Try.prog 29 = true := by kernel_rfl
@[simp] theorem flds_29 : flds Try.prog 29 = [] := by kernel_rfl
@[simp] theorem zeros_29 : zeros Try.prog 29 = some [Value.tuple { toList := [Value.agg { toList := [Value.slice none 0 0, Value.int IntKind.i64 0] }, Value.int IntKind.i64 0] }] := by kernel_rfl
@[simp] theorem isinfo_29 : (Try.prog.info? 29).isSome = true := by kernel_rfl
@[simp] theorem isund_29 : (Try.prog.underlying 29).isSome = true := by kernel_rfl
@[simp] theorem cellsOf_30 : Try.prog.cellsOf 30 = 1 := by kernel_rfl
@[simp] theorem bytesOf_30 : Try.prog.bytesOf 30 = 8 := by kernel_rfl
@[simp] theorem slel_30 : slel Try.prog 30 = none := by kernel_rfl
@[simp] theorem isAggB_30 : isAggB Try.prog 30 = false := by kernel_rfl
@[simp] theorem tOk_30 : tOk Try.prog 30 = true := by kernel_rfl
@[simp] theorem arrOf_30 : arrOf Try.prog 30 = none := by kernel_rfl
@[simp] theorem strB_30 : strB Try.prog 30 = false := by kernel_rfl
@[simp] theorem bolB_30 : bolB Try.prog 30 = false := by kernel_rfl
@[simp] theorem mapB_30 : mapB Try.prog 30 = false := by kernel_rfl
@[simp] theorem intK_30 : intK Try.prog 30 = none := by kernel_rfl
@[simp] theorem zrow_30 : zrow Try.prog 30 = some [AV.sc Value.nilFunc] := by kernel_rfl
@[simp] theorem bldOk_30 : bldOk Try.prog 30 = false := by kernel_rfl
@[simp] theorem tcs_30 : tcs Try.prog 30 = [30] := by kernel_rfl
@[simp] theorem srcT_30 : srcT Try.prog 30 = false := by kernel_rfl
@[simp] theorem zok_30 : zok Try.prog 30 = true := by kernel_rfl
@[simp] theorem flds_30 : flds Try.prog 30 = [] := by kernel_rfl
@[simp] theorem zeros_30 : zeros Try.prog 30 = some [Value.nilFunc] := by kernel_rfl
@[simp] theorem isinfo_30 : (Try.prog.info? 30).isSome = true := by kernel_rfl
@[simp] theorem isund_30 : (Try.prog.underlying 30).isSome = true := by kernel_rfl
@[simp] theorem cellsOf_31 : Try.prog.cellsOf 31 = 1 := by kernel_rfl
@[simp] theorem bytesOf_31 : Try.prog.bytesOf 31 = 8 := by kernel_rfl
@[simp] theorem slel_31 : slel Try.prog 31 = none := by kernel_rfl
@[simp] theorem isAggB_31 : isAggB Try.prog 31 = false := by kernel_rfl
@[simp] theorem tOk_31 : tOk Try.prog 31 = true := by kernel_rfl
@[simp] theorem arrOf_31 : arrOf Try.prog 31 = none := by kernel_rfl
@[simp] theorem strB_31 : strB Try.prog 31 = false := by kernel_rfl
@[simp] theorem bolB_31 : bolB Try.prog 31 = false := by kernel_rfl
@[simp] theorem mapB_31 : mapB Try.prog 31 = false := by kernel_rfl
@[simp] theorem intK_31 : intK Try.prog 31 = none := by kernel_rfl
@[simp] theorem zrow_31 : zrow Try.prog 31 = some [AV.sc Value.nilFunc] := by kernel_rfl
@[simp] theorem bldOk_31 : bldOk Try.prog 31 = false := by kernel_rfl
@[simp] theorem tcs_31 : tcs Try.prog 31 = [31] := by kernel_rfl
@[simp] theorem srcT_31 : srcT Try.prog 31 = false := by kernel_rfl
@[simp] theorem zok_31 : zok Try.prog 31 = true := by kernel_rfl
@[simp] theorem flds_31 : flds Try.prog 31 = [] := by kernel_rfl
@[simp] theorem zeros_31 : zeros Try.prog 31 = some [Value.nilFunc] := by kernel_rfl
@[simp] theorem isinfo_31 : (Try.prog.info? 31).isSome = true := by kernel_rfl
@[simp] theorem isund_31 : (Try.prog.underlying 31).isSome = true := by kernel_rfl
@[simp] theorem cellsOf_32 : Try.prog.cellsOf 32 = 1 := by kernel_rfl
@[simp] theorem bytesOf_32 : Try.prog.bytesOf 32 = 8 := by kernel_rfl
@[simp] theorem slel_32 : slel Try.prog 32 = none := by kernel_rfl
@[simp] theorem isAggB_32 : isAggB Try.prog 32 = false := by kernel_rfl
@[simp] theorem tOk_32 : tOk Try.prog 32 = true := by kernel_rfl
@[simp] theorem arrOf_32 : arrOf Try.prog 32 = none := by kernel_rfl
@[simp] theorem strB_32 : strB Try.prog 32 = false := by kernel_rfl
@[simp] theorem bolB_32 : bolB Try.prog 32 = false := by kernel_rfl
@[simp] theorem mapB_32 : mapB Try.prog 32 = false := by kernel_rfl
@[simp] theorem intK_32 : intK Try.prog 32 = none := by kernel_rfl
@[simp] theorem zrow_32 : zrow Try.prog 32 = some [AV.sc Value.nilFunc] := by kernel_rfl
@[simp] theorem bldOk_32 : bldOk Try.prog 32 = false := by kernel_rfl
@[simp] theorem tcs_32 : tcs Try.prog 32 = [32] := by kernel_rfl
@[simp] theorem srcT_32 : srcT Try.prog 32 = false := by kernel_rfl
@[simp] theorem zok_32 : zok Try.prog 32 = true := by kernel_rfl
@[simp] theorem flds_32 : flds Try.prog 32 = [] := by kernel_rfl
@[simp] theorem zeros_32 : zeros Try.prog 32 = some [Value.nilFunc] := by kernel_rfl
@[simp] theorem isinfo_32 : (Try.prog.info? 32).isSome = true := by kernel_rfl
@[simp] theorem isund_32 : (Try.prog.underlying 32).isSome = true := by kernel_rfl
@[simp] theorem cellsOf_33 : Try.prog.cellsOf 33 = 1 := by kernel_rfl
@[simp] theorem bytesOf_33 : Try.prog.bytesOf 33 = 8 := by kernel_rfl
@[simp] theorem slel_33 : slel Try.prog 33 = none := by kernel_rfl
@[simp] theorem isAggB_33 : isAggB Try.prog 33 = false := by kernel_rfl
@[simp] theorem tOk_33 : tOk Try.prog 33 = true := by kernel_rfl
@[simp] theorem arrOf_33 : arrOf Try.prog 33 = none := by kernel_rfl
@[simp] theorem strB_33 : strB Try.prog 33 = false := by kernel_rfl
@[simp] theorem bolB_33 : bolB Try.prog 33 = false := by kernel_rfl
@[simp] theorem mapB_33 : mapB Try.prog 33 = false := by kernel_rfl
@[simp] theorem intK_33 : intK Try.prog 33 = none := by kernel_rfl
@[simp] theorem zrow_33 : zrow Try.prog 33 = some [AV.sc Value.nilFunc] := by kernel_rfl
@[simp] theorem bldOk_33 : bldOk Try.prog 33 = false := by kernel_rfl
@[simp] theorem tcs_33 : tcs Try.prog 33 = [33] := by kernel_rfl
@[simp] theorem srcT_33 : srcT Try.prog 33 = false := by kernel_rfl
@[simp] theorem zok_33 : zok Try.prog 33 = true := by kernel_rfl
@[simp] theorem flds_33 : flds Try.prog 33 = [] := by kernel_rfl
@[simp] theorem zeros_33 : zeros Try.prog 33 = some [Value.nilFunc] := by kernel_rfl
@[simp] theorem isinfo_33 : (Try.prog.info? 33).isSome = true := by kernel_rfl
@[simp] theorem isund_33 : (Try.prog.underlying 33).isSome = true := by kernel_rfl
@[simp] theorem cellsOf_34 : Try.prog.cellsOf 34 = 1 := by kernel_rfl
@[simp] theorem bytesOf_34 : Try.prog.bytesOf 34 = 8 := by kernel_rfl
@[simp] theorem slel_34 : slel Try.prog 34 = none := by kernel_rfl
@[simp] theorem isAggB_34 : isAggB Try.prog 34 = false := by kernel_rfl
@[simp] theorem tOk_34 : tOk Try.prog 34 = true := by kernel_rfl
@[simp] theorem arrOf_34 : arrOf Try.prog 34 = none := by kernel_rfl
@[simp] theorem strB_34 : strB Try.prog 34 = false := by kernel_rfl
@[simp] theorem bolB_34 : bolB Try.prog 34 = false := by kernel_rfl
@[simp] theorem mapB_34 : mapB Try.prog 34 = false := by kernel_rfl
@[simp] theorem intK_34 : intK Try.prog 34 = none := by kernel_rfl
@[simp] theorem zrow_34 : zrow Try.prog 34 = some [AV.sc Value.nilFunc] := by kernel_rfl
@[simp] theorem bldOk_34 : bldOk Try.prog 34 = false := by kernel_rfl
@[simp] theorem tcs_34 : tcs Try.prog 34 = [34] := by kernel_rfl
@[simp] theorem srcT_34 : srcT Try.prog 34 = false := by kernel_rfl
@[simp] theorem zok_34 : zok Try.prog 34 = true := by kernel_rfl
@[simp] theorem flds_34 : flds Try.prog 34 = [] := by kernel_rfl
@[simp] theorem zeros_34 : zeros Try.prog 34 = some [Value.nilFunc] := by kernel_rfl
@[simp] theorem isinfo_34 : (Try.prog.info? 34).isSome = true := by kernel_rfl
@[simp] theorem isund_34 : (Try.prog.underlying 34).isSome = true := by kernel_rfl
@[simp] theorem cellsOf_35 : Try.prog.cellsOf 35 = 1 := by kernel_rfl
@[simp] theorem bytesOf_35 : Try.prog.bytesOf 35 = 8 := by kernel_rfl
@[simp] theorem slel_35 : slel Try.prog 35 = none := by kernel_rfl
@[simp] theorem isAggB_35 : isAggB Try.prog 35 = false := by kernel_rfl
@[simp] theorem tOk_35 : tOk Try.prog 35 = true := by kernel_rfl
@[simp] theorem arrOf_35 : arrOf Try.prog 35 = none := by kernel_rfl
@[simp] theorem strB_35 : strB Try.prog 35 = false := by kernel_rfl
@[simp] theorem bolB_35 : bolB Try.prog 35 = false := by kernel_rfl
@[simp] theorem mapB_35 : mapB Try.prog 35 = false := by kernel_rfl
@[simp] theorem intK_35 : intK Try.prog 35 = none := by kernel_rfl
@[simp] theorem zrow_35 : zrow Try.prog 35 = some [AV.sc Value.nilFunc] := by kernel_rfl
@[simp] theorem bldOk_35 : bldOk Try.prog 35 = false := by kernel_rfl
@[simp] theorem tcs_35 : tcs Try.prog 35 = [35] := by kernel_rfl
@[simp] theorem srcT_35 : srcT Try.prog 35 = false := by kernel_rfl
@[simp] theorem zok_35 : zok Try.prog 35 = true := by kernel_rfl
@[simp] theorem flds_35 : flds Try.prog 35 = [] := by kernel_rfl
@[simp] theorem zeros_35 : zeros Try.prog 35 = some [Value.nilFunc] := by kernel_rfl
@[simp] theorem isinfo_35 : (Try.prog.info? 35).isSome = true := by kernel_rfl
@[simp] theorem isund_35 : (Try.prog.underlying 35).isSome = true := by kernel_rfl
@[simp] theorem cellsOf_36 : Try.prog.cellsOf 36 = 1 := by kernel_rfl
@[simp] theorem bytesOf_36 : Try.prog.bytesOf 36 = 4 := by kernel_rfl
@[simp] theorem slel_36 : slel Try.prog 36 = none := by kernel_rfl
@[simp] theorem isAggB_36 : isAggB Try.prog 36 = false := by kernel_rfl
@[simp] theorem tOk_36 : tOk Try.prog 36 = true := by kernel_rfl
@[simp] theorem arrOf_36 : arrOf Try.prog 36 = none := by kernel_rfl
@[simp] theorem strB_36 : strB Try.prog 36 = false := by kernel_rfl
@[simp] theorem bolB_36 : bolB Try.prog 36 = false := by kernel_rfl
@[simp] theorem mapB_36 : mapB Try.prog 36 = false := by kernel_rfl
@[simp] theorem intK_36 : intK Try.prog 36 = some IntKind.u32 := by kernel_rfl
@[simp] theorem zrow_36 : zrow Try.prog 36 = some [AV.sc (Value.int IntKind.u32 0)] := by kernel_rfl
@[simp] theorem bldOk_36 : bldOk Try.prog 36 = false := by kernel_rfl
@[simp] theorem tcs_36 : tcs Try.prog 36 = [36] := by kernel_rfl
@[simp] theorem srcT_36 : srcT Try.prog 36 = false := by kernel_rfl
@[simp] theorem zok_36 : zok Try.prog 36 = true := by kernel_rfl
@[simp] theorem flds_36 : flds Try.prog 36 = [] := by kernel_rfl
@[simp] theorem zeros_36 : zeros Try.prog 36 = some [Value.int IntKind.u32 0] := by kernel_rfl
@[simp] theorem isinfo_36 : (Try.prog.info? 36).isSome = true := by kernel_rfl
@[simp] theorem isund_36 : (Try.prog.underlying 36).isSome = true := by kernel_rfl
@[simp] theorem cellsOf_37 : Try.prog.cellsOf 37 = 1 := by kernel_rfl
@[simp] theorem bytesOf_37 : Try.prog.bytesOf 37 = 8 := by kernel_rfl
@[simp] theorem slel_37 : slel Try.prog 37 = none := by kernel_rfl
@[simp] theorem isAggB_37 : isAggB Try.prog 37 = false := by kernel_rfl
@[simp] theorem tOk_37 : tOk Try.prog 37 = true := by kernel_rfl
@[simp] theorem arrOf_37 : arrOf Try.prog 37 = none := by kernel_rfl
@[simp] theorem strB_37 : strB Try.prog 37 = false := by kernel_rfl
@[simp] theorem bolB_37 : bolB Try.prog 37 = false := by kernel_rfl
@[simp] theorem mapB_37 : mapB Try.prog 37 = false := by kernel_rfl
@[simp] theorem intK_37 : intK Try.prog 37 = none := by kernel_rfl
@[simp] theorem zrow_37 : zrow Try.prog 37 = some [AV.sc Value.nilFunc] := by kernel_rfl
@[simp] theorem bldOk_37 : bldOk Try.prog 37 = false := by kernel_rfl
@[simp] theorem tcs_37 : tcs Try.prog 37 = [37] := by kernel_rfl
@[simp] theorem srcT_37 : srcT Try.prog 37 = false := by kernel_rfl
@[simp] theorem zok_37 : zok Try.prog 37 = true := by kernel_rfl
@[simp] theorem flds_37 : flds Try.prog 37 = [] := by kernel_rfl
@[simp] theorem zeros_37 : zeros Try.prog 37 = some [Value.nilFunc] := by kernel_rfl
@[simp] theorem isinfo_37 : (Try.prog.info? 37).isSome = true := by kernel_rfl
@[simp] theorem isund_37 : (Try.prog.underlying 37).isSome = true := by kernel_rfl
@[simp] theorem cellsOf_38 : Try.prog.cellsOf 38 = 1 := by kernel_rfl
@[simp] theorem bytesOf_38 : Try.prog.bytesOf 38 = 8 := by kernel_rfl
@[simp] theorem slel_38 : slel Try.prog 38 = none := by kernel_rfl
@[simp] theorem isAggB_38 : isAggB Try.prog 38 = false := by kernel_rfl
@[simp] theorem tOk_38 : tOk Try.prog 38 = true := by kernel_rfl
@[simp] theorem arrOf_38 : arrOf Try.prog 38 = none := by kernel_rfl
@[simp] theorem strB_38 : strB Try.prog 38 = false := by kernel_rfl
@[simp] theorem bolB_38 : bolB Try.prog 38 = false := by kernel_rfl
@[simp] theorem mapB_38 : mapB Try.prog 38 = false := by kernel_rfl
@[simp] theorem intK_38 : intK Try.prog 38 = none := by kernel_rfl
@[simp] theorem zrow_38 : zrow Try.prog 38 = some [AV.sc Value.nilFunc] := by kernel_rfl
@[simp] theorem bldOk_38 : bldOk Try.prog 38 = false := by kernel_rfl
@[simp] theorem tcs_38 : tcs Try.prog 38 = [38] := by kernel_rfl
@[simp] theorem srcT_38 : srcT Try.prog 38 = false := by kernel_rfl
@[simp] theorem zok_38 : zok Try.prog 38 = true := by kernel_rfl
@[simp] theorem flds_38 : flds Try.prog 38 = [] := by kernel_rfl
@[simp] theorem zeros_38 : zeros Try.prog 38 = some [Value.nilFunc] := by kernel_rfl
@[simp] theorem isinfo_38 : (Try.prog.info? 38).isSome = true := by kernel_rfl
@[simp] theorem isund_38 : (Try.prog.underlying 38).isSome = true := by kernel_rfl
@[simp] theorem cellsOf_39 : Try.prog.cellsOf 39 = 1 := by kernel_rfl
@[simp] theorem bytesOf_39 : Try.prog.bytesOf 39 = 24 := by kernel_rfl
@[simp] theorem slel_39 : slel Try.prog 39 = some 9 := by kernel_rfl
@[simp] theorem isAggB_39 : isAggB Try.prog 39 = false := by kernel_rfl
@[simp] theorem tOk_39 : tOk Try.prog 39 = true := by kernel_rfl
@[simp] theorem arrOf_39 : arrOf Try.prog 39 = none := by kernel_rfl
@[simp] theorem strB_39 : strB Try.prog 39 = false := by kernel_rfl
@[simp] theorem bolB_39 : bolB Try.prog 39 = false := by kernel_rfl
@[simp] theorem mapB_39 : mapB Try.prog 39 = false := by kernel_rfl
@[simp] theorem intK_39 : intK Try.prog 39 = none := by kernel_rfl
@[simp] theorem zrow_39 : zrow Try.prog 39 = some [AV.sl false 1 []] := by kernel_rfl
@[simp] theorem bldOk_39 : bldOk Try.prog 39 = false := by kernel_rfl
@[simp] theorem tcs_39 : tcs Try.prog 39 = [39] := by kernel_rfl
@[simp] theorem srcT_39 : srcT Try.prog 39 = true := by kernel_rfl
@[simp] theorem zok_39 : zok Try.prog 39 = true := by kernel_rfl
@[simp] theorem flds_39 : flds Try.prog 39 = [] := by kernel_rfl
@[simp] theorem zeros_39 : zeros Try.prog 39 = some [Value.slice none 0 0] := by kernel_rfl
@[simp] theorem isinfo_39 : (Try.prog.info? 39).isSome = true := by kernel_rfl
@[simp] theorem isund_39 : (Try.prog.underlying 39).isSome = true := by kernel_rfl
@[simp] theorem cellsOf_40 : Try.prog.cellsOf 40 = 1 := by kernel_rfl
@[simp] theorem bytesOf_40 : Try.prog.bytesOf 40 = 24 := by kernel_rfl
@[simp] theorem slel_40 : slel Try.prog 40 = none := by kernel_rfl
@[simp] theorem isAggB_40 : isAggB Try.prog 40 = true := by kernel_rfl
@[simp] theorem tOk_40 : tOk Try.prog 40 = true := by kernel_rfl
@[simp] theorem arrOf_40 : arrOf Try.prog 40 = none := by kernel_rfl
@[simp] theorem strB_40 : strB Try.prog 40 = false := by kernel_rfl
@[simp] theorem bolB_40 : bolB Try.prog 40 = false := by kernel_rfl
@[simp] theorem mapB_40 : mapB Try.prog 40 = false := by kernel_rfl
@[simp] theorem intK_40 : intK Try.prog 40 = none := by kernel_rfl
@[simp] theorem zrow_40 : zrow Try.prog 40 = some [AV.sl false 1 []] := by kernel_rfl
@[simp] theorem bldOk_40 : bldOk Try.prog 40 = true := by kernel_rfl
@[simp] theorem tcs_40 : tcs Try.prog 40 = [39] := by kernel_rfl
@[simp] theorem srcT_40 : srcT Try.prog 40 = false := by kernel_rfl
@[simp] theorem zok_40 : zok Try.prog 40 = true := by kernel_rfl
@[simp] theorem flds_40 : flds Try.prog 40 = [(0, 1, 39)] := by kernel_rfl
@[simp] theorem zeros_40 : zeros Try.prog 40 = some [Value.slice none 0 0] := by kernel_rfl
@[simp] theorem isinfo_40 : (Try.prog.info? 40).isSome = true := by kernel_rfl
@[simp] theorem isund_40 : (Try.prog.underlying 40).isSome = true := by kernel_rfl
@[simp] theorem cellsOf_41 : Try.prog.cellsOf 41 = 1 := by kernel_rfl
@[simp] theorem bytesOf_41 : Try.prog.bytesOf 41 = 24 := by kernel_rfl
@[simp] theorem slel_41 : slel Try.prog 41 = none := by kernel_rfl
@[simp] theorem isAggB_41 : isAggB Try.prog 41 = true := by kernel_rfl
@[simp] theorem tOk_41 : tOk Try.prog 41 = true := by kernel_rfl
@[simp] theorem arrOf_41 : arrOf Try.prog 41 = none := by kernel_rfl
@[simp] theorem strB_41 : strB Try.prog 41 = false := by kernel_rfl
@[simp] theorem bolB_41 : bolB Try.prog 41 = false := by kernel_rfl
@[simp] theorem mapB_41 : mapB Try.prog 41 = false := by kernel_rfl
@[simp] theorem intK_41 : intK Try.prog 41 = none := by kernel_rfl
@[simp] theorem zrow_41 : zrow Try.prog 41 = some [AV.sl false 1 []] := by kernel_rfl
@[simp] theorem bldOk_41 : bldOk Try.prog 41 = true := by kernel_rfl
@[simp] theorem tcs_41 : tcs Try.prog 41 = [39] := by kernel_rfl
@[simp] theorem srcT_41 : srcT Try.prog 41 = false := by kernel_rfl
@[simp] theorem zok_41 : zok Try.prog 41 = true := by kernel_rfl
@[simp] theorem flds_41 : flds Try.prog 41 = [(0, 1, 39)] := by kernel_rfl
@[simp] theorem zeros_41 : zeros Try.prog 41 = some [Value.slice none 0 0] := by kernel_rfl
@[simp] theorem isinfo_41 : (Try.prog.info? 41).isSome = true := by kernel_rfl
@[simp] theorem isund_41 : (Try.prog.underlying 41).isSome = true := by kernel_rfl
@[simp] theorem cellsOf_42 : Try.prog.cellsOf 42 = 1 := by kernel_rfl
@[simp] theorem bytesOf_42 : Try.prog.bytesOf 42 = 0 := by kernel_rfl
@[simp] theorem slel_42 : slel Try.prog 42 = none := by kernel_rfl
@[simp] theorem isAggB_42 : isAggB Try.prog 42 = false := by kernel_rfl
@[simp] theorem tOk_42 : tOk Try.prog 42 = true := by kernel_rfl
@[simp] theorem arrOf_42 : arrOf Try.prog 42 = none := by kernel_rfl
@[simp] theorem strB_42 : strB Try.prog 42 = false := by kernel_rfl
@[simp] theorem bolB_42 : bolB Try.prog 42 = false := by kernel_rfl
@[simp] theorem mapB_42 : mapB Try.prog 42 = false := by kernel_rfl
@[simp] theorem intK_42 : intK Try.prog 42 = none := by kernel_rfl
@[simp] theorem zrow_42 : zrow Try.prog 42 = none := by kernel_rfl
@[simp] theorem bldOk_42 : bldOk Try.prog 42 = false := by kernel_rfl
@[simp] theorem tcs_42 : tcs Try.prog 42 = [42] := by kernel_rfl
@[simp] theorem srcT_42 : srcT Try.prog 42 = false := by kernel_rfl
@[simp] theorem zok_42 : zok Try.prog 42 = true := by kernel_rfl
@[simp] theorem flds_42 : flds Try.prog 42 = [] := by kernel_rfl
@[simp] theorem zeros_42 : zeros Try.prog 42 = some [Value.tuple { toList := [Value.agg { toList := [Value.slice none 0 0] }, Value.int IntKind.i64 0] }] := by kernel_rfl
@[simp] theorem isinfo_42 : (Try.prog.info? 42).isSome = true := by kernel_rfl
@[simp] theorem isund_42 : (Try.prog.underlying 42).isSome = true := by kernel_rfl
@[simp] theorem cellsOf_43 : Try.prog.cellsOf 43 = 1 := by kernel_rfl
@[simp] theorem bytesOf_43 : Try.prog.bytesOf 43 = 8 := by kernel_rfl
@[simp] theorem slel_43 : slel Try.prog 43 = none := by kernel_rfl
@[simp] theorem isAggB_43 : isAggB Try.prog 43 = false := by kernel_rfl
@[simp] theorem tOk_43 : tOk Try.prog 43 = true := by kernel_rfl
@[simp] theorem arrOf_43 : arrOf Try.prog 43 = none := by kernel_rfl
@[simp] theorem strB_43 : strB Try.prog 43 = false := by kernel_rfl
@[simp] theorem bolB_43 : bolB Try.prog 43 = false := by kernel_rfl
@[simp] theorem mapB_43 : mapB Try.prog 43 = false := by kernel_rfl
@[simp] theorem intK_43 : intK Try.prog 43 = none := by kernel_rfl
@[simp] theorem zrow_43 : zrow Try.prog 43 = some [AV.sc Value.nilFunc] := by kernel_rfl
@[simp] theorem bldOk_43 : bldOk Try.prog 43 = false := by kernel_rfl
@[simp] theorem tcs_43 : tcs Try.prog 43 = [43] := by kernel_rfl
@[simp] theorem srcT_43 : srcT Try.prog 43 = false := by kernel_rfl
@[simp] theorem zok_43 : zok Try.prog 43 = true := by kernel_rfl
@[simp] theorem flds_43 : flds Try.prog 43 = [] := by kernel_rfl
@[simp] theorem zeros_43 : zeros Try.prog 43 = some [Value.nilFunc] := by kernel_rfl
@[simp] theorem isinfo_43 : (Try.prog.info? 43).isSome = true := by kernel_rfl
@[simp] theorem isund_43 : (Try.prog.underlying 43).isSome = true := by kernel_rfl
@[simp] theorem cellsOf_44 : Try.prog.cellsOf 44 = 1 := by kernel_rfl
@[simp] theorem bytesOf_44 : Try.prog.bytesOf 44 = 8 := by kernel_rfl
@[simp] theorem slel_44 : slel Try.prog 44 = none := by kernel_rfl
@[simp] theorem isAggB_44 : isAggB Try.prog 44 = false := by kernel_rfl
@[simp] theorem tOk_44 : tOk Try.prog 44 = true := by kernel_rfl
@[simp] theorem arrOf_44 : arrOf Try.prog 44 = none := by kernel_rfl
@[simp] theorem strB_44 : strB Try.prog 44 = false := by kernel_rfl
@[simp] theorem bolB_44 : bolB Try.prog 44 = false := by kernel_rfl
@[simp] theorem mapB_44 : mapB Try.prog 44 = false := by kernel_rfl
@[simp] theorem intK_44 : intK Try.prog 44 = none := by kernel_rfl
@[simp] theorem zrow_44 : zrow Try.prog 44 = some [AV.sc Value.nilFunc] := by kernel_rfl
@[simp] theorem bldOk_44 : bldOk Try.prog 44 = false := by kernel_rfl
@[simp] theorem tcs_44 : tcs Try.prog 44 = [44] := by kernel_rfl
@[simp] theorem srcT_44 : srcT Try.prog 44 = false := by kernel_rfl
@[simp] theorem zok_44 : zok Try.prog 44 = true := by kernel_rfl
@[simp] theorem flds_44 : flds Try.prog 44 = [] := by kernel_rfl
@[simp] theorem zeros_44 : zeros Try.prog 44 = some [Value.nilFunc] := by kernel_rfl
@[simp] theorem isinfo_44 : (Try.prog.info? 44).isSome = true := by kernel_rfl
@[simp] theorem isund_44 : (Try.prog.underlying 44).isSome = true := by kernel_rfl
@[simp] theorem cellsOf_45 : Try.prog.cellsOf 45 = 1 := by kernel_rfl
@[simp] theorem bytesOf_45 : Try.prog.bytesOf 45 = 8 := by kernel_rfl
@[simp] theorem slel_45 : slel Try.prog 45 = none := by kernel_rfl
@[simp] theorem isAggB_45 : isAggB Try.prog 45 = false := by kernel_rfl
@[simp] theorem tOk_45 : tOk Try.prog 45 = true := by kernel_rfl
@[simp] theorem arrOf_45 : arrOf Try.prog 45 = none := by kernel_rfl
@[simp] theorem strB_45 : strB Try.prog 45 = false := by kernel_rfl
@[simp] theorem bolB_45 : bolB Try.prog 45 = false := by kernel_rfl
@[simp] theorem mapB_45 : mapB Try.prog 45 = false := by kernel_rfl
@[simp] theorem intK_45 : intK Try.prog 45 = none := by kernel_rfl
@[simp] theorem zrow_45 : zrow Try.prog 45 = some [AV.sc Value.nilFunc] := by kernel_rfl
@[simp] theorem bldOk_45 : bldOk Try.prog 45 = false := by kernel_rfl
@[simp] theorem tcs_45 : tcs Try.prog 45 = [45] := by kernel_rfl
@[simp] theorem srcT_45 : srcT Try.prog 45 = false := by kernel_rfl
@[simp] theorem zok_45 : zok Try.prog 45 = true := by kernel_rfl
@[simp] theorem flds_45 : flds Try.prog 45 = [] := by kernel_rfl
@[simp] theorem zeros_45 : zeros Try.prog 45 = some [Value.nilFunc] := by kernel_rfl
@[simp] theorem isinfo_45 : (Try.prog.info? 45).isSome = true := by kernel_rfl
@[simp] theorem isund_45 : (Try.prog.underlying 45).isSome = true := by kernel_rfl
@[simp] theorem cellsOf_46 : Try.prog.cellsOf 46 = 1 := by kernel_rfl
@[simp] theorem bytesOf_46 : Try.prog.bytesOf 46 = 0 := by kernel_rfl
@[simp] theorem slel_46 : slel Try.prog 46 = none := by kernel_rfl
@[simp] theorem isAggB_46 : isAggB Try.prog 46 = false := by kernel_rfl
@[simp] theorem tOk_46 : tOk Try.prog 46 = true := by kernel_rfl
@[simp] theorem arrOf_46 : arrOf Try.prog 46 = none := by kernel_rfl
@[simp] theorem strB_46 : strB Try.prog 46 = false := by kernel_rfl
@[simp] theorem bolB_46 : bolB Try.prog 46 = false := by kernel_rfl
@[simp] theorem mapB_46 : mapB Try.prog 46 = false := by kernel_rfl
@[simp] theorem intK_46 : intK Try.prog 46 = none := by kernel_rfl
@[simp] theorem zrow_46 : zrow Try.prog 46 = none := by kernel_rfl
@[simp] theorem bldOk_46 : bldOk Try.prog 46 = false := by kernel_rfl
@[simp] theorem tcs_46 : tcs Try.prog 46 = [46] := by kernel_rfl
@[simp] theorem srcT_46 : srcT Try.prog 46 = false := by kernel_rfl
@[simp] theorem zok_46 : zok Try.prog 46 = true := by kernel_rfl
@[simp] theorem flds_46 : flds Try.prog 46 = [] := by kernel_rfl
@[simp] theorem zeros_46 : zeros Try.prog 46 = some [Value.tuple { toList := [Value.slice none 0 0, Value.int IntKind.i64 0] }] := by kernel_rfl
@[simp] theorem isinfo_46 : (Try.prog.info? 46).isSome = true := by kernel_rfl
@[simp] theorem isund_46 : (Try.prog.underlying 46).isSome = true := by kernel_rfl
@[simp] theorem cellsOf_47 : Try.prog.cellsOf 47 = 1 := by kernel_rfl
@[simp] theorem bytesOf_47 : Try.prog.bytesOf 47 = 8 := by kernel_rfl
@[simp] theorem slel_47 : slel Try.prog 47 = none := by kernel_rfl
@[simp] theorem isAggB_47 : isAggB Try.prog 47 = false := by kernel_rfl
@[simp] theorem tOk_47 : tOk Try.prog 47 = true := by kernel_rfl
@[simp] theorem arrOf_47 : arrOf Try.prog 47 = none := by kernel_rfl
@[simp] theorem strB_47 : strB Try.prog 47 = false := by kernel_rfl
@[simp] theorem bolB_47 : bolB Try.prog 47 = false := by kernel_rfl
@[simp] theorem mapB_47 : mapB Try.prog 47 = false := by kernel_rfl
@[simp] theorem intK_47 : intK Try.prog 47 = none := by kernel_rfl
@[simp] theorem zrow_47 : zrow Try.prog 47 = some [AV.sc Value.nilFunc] := by kernel_rfl
@[simp] theorem bldOk_47 : bldOk Try.prog 47 = false := by kernel_rfl
@[simp] theorem tcs_47 : tcs Try.prog 47 = [47] := by kernel_rfl
@[simp] theorem srcT_47 : srcT Try.prog 47 = false := by kernel_rfl
@[simp] theorem zok_47 : zok Try.prog 47 = true := by kernel_rfl
@[simp] theorem flds_47 : flds Try.prog 47 = [] := by kernel_rfl
@[simp] theorem zeros_47 : zeros Try.prog 47 = some [Value.nilFunc] := by kernel_rfl
@[simp] theorem isinfo_47 : (Try.prog.info? 47).isSome = true := by kernel_rfl
@[simp] theorem isund_47 : (Try.prog.underlying 47).isSome = true := by kernel_rfl
@[simp] theorem cellsOf_48 : Try.prog.cellsOf 48 = 1 := by kernel_rfl
@[simp] theorem bytesOf_48 : Try.prog.bytesOf 48 = 8 := by kernel_rfl
@[simp] theorem slel_48 : slel Try.prog 48 = none := by kernel_rfl
@[simp] theorem isAggB_48 : isAggB Try.prog 48 = false := by kernel_rfl
@[simp] theorem tOk_48 : tOk Try.prog 48 = true := by kernel_rfl
@[simp] theorem arrOf_48 : arrOf Try.prog 48 = none := by kernel_rfl
@[simp] theorem strB_48 : strB Try.prog 48 = false := by kernel_rfl
@[simp] theorem bolB_48 : bolB Try.prog 48 = false := by kernel_rfl
@[simp] theorem mapB_48 : mapB Try.prog 48 = false := by kernel_rfl
@[simp] theorem intK_48 : intK Try.prog 48 = none := by kernel_rfl
@[simp] theorem zrow_48 : zrow Try.prog 48 = some [AV.sc Value.nilFunc] := by kernel_rfl
@[simp] theorem bldOk_48 : bldOk Try.prog 48 = false := by kernel_rfl
@[simp] theorem tcs_48 : tcs Try.prog 48 = [48] := by kernel_rfl
@[simp] theorem srcT_48 : srcT Try.prog 48 = false := by kernel_rfl
@[simp] theorem zok_48 : zok Try.prog 48 = true := by kernel_rfl
@[simp] theorem flds_48 : flds Try.prog 48 = [] := by kernel_rfl
@[simp] theorem zeros_48 : zeros Try.prog 48 = some [Value.nilFunc] := by kernel_rfl
@[simp] theorem isinfo_48 : (Try.prog.info? 48).isSome = true := by kernel_rfl
@[simp] theorem isund_48 : (Try.prog.underlying 48).isSome = true := by kernel_rfl
@[simp] theorem cellsOf_49 : Try.prog.cellsOf 49 = 1 := by kernel_rfl
@[simp] theorem bytesOf_49 : Try.prog.bytesOf 49 = 8 := by kernel_rfl
@[simp] theorem slel_49 : slel Try.prog 49 = none := by kernel_rfl
@[simp] theorem isAggB_49 : isAggB Try.prog 49 = false := by kernel_rfl
@[simp] theorem tOk_49 : tOk Try.prog 49 = true := by kernel_rfl
@[simp] theorem arrOf_49 : arrOf Try.prog 49 = none := by kernel_rfl
@[simp] theorem strB_49 : strB Try.prog 49 = false := by kernel_rfl
@[simp] theorem bolB_49 : bolB Try.prog 49 = false := by kernel_rfl
@[simp] theorem mapB_49 : mapB Try.prog 49 = false := by kernel_rfl
@[simp] theorem intK_49 : intK Try.prog 49 = none := by kernel_rfl
@[simp] theorem zrow_49 : zrow Try.prog 49 = some [AV.sc Value.nilFunc] := by kernel_rfl
@[simp] theorem bldOk_49 : bldOk Try.prog 49 = false := by kernel_rfl
@[simp] theorem tcs_49 : tcs Try.prog 49 = [49] := by kernel_rfl
@[simp] theorem srcT_49 : srcT Try.prog 49 = false := by kernel_rfl
@[simp] theorem zok_49 : zok Try.prog 49 = true := by kernel_rfl
@[simp] theorem flds_49 : flds Try.prog 49 = [] := by kernel_rfl
@[simp] theorem zeros_49 : zeros Try.prog 49 = some [Value.nilFunc] := by kernel_rfl
@[simp] theorem isinfo_49 : (Try.prog.info? 49).isSome = true := by kernel_rfl
@[simp] theorem isund_49 : (Try.prog.underlying 49).isSome = true := by kernel_rfl
@[simp] theorem cellsOf_50 : Try.prog.cellsOf 50 = 3 := by kernel_rfl
@[simp] theorem bytesOf_50 : Try.prog.bytesOf 50 = 32 := by kernel_rfl
@[simp] theorem slel_50 : slel Try.prog 50 = none := by kernel_rfl
@[simp] theorem isAggB_50 : isAggB Try.prog 50 = true := by kernel_rfl
@[simp] theorem tOk_50 : tOk Try.prog 50 = true := by kernel_rfl
@[simp] theorem arrOf_50 : arrOf Try.prog 50 = none := by kernel_rfl
@[simp] theorem strB_50 : strB Try.prog 50 = false := by kernel_rfl
@[simp] theorem bolB_50 : bolB Try.prog 50 = false := by kernel_rfl
@[simp] theorem mapB_50 : mapB Try.prog 50 = false := by kernel_rfl
@[simp] theorem intK_50 : intK Try.prog 50 = none := by kernel_rfl
@[simp] theorem zrow_50 : zrow Try.prog 50 = some [AV.sc (Value.int IntKind.i64 0), AV.sc (Value.string { data := { toList := [] } }), AV.sc (Value.int IntKind.i64 0)] := by kernel_rfl
@[simp] theorem bldOk_50 : bldOk Try.prog 50 = true := by kernel_rfl
@[simp] theorem tcs_50 : tcs Try.prog 50 = [3, 9, 3] := by kernel_rfl
@[simp] theorem srcT_50 : srcT Try.prog 50 = false := by kernel_rfl
@[simp] theorem zok_50 : zok Try.prog 50 = true := by kernel_rfl
@[simp] theorem flds_50 : flds Try.prog 50 = [(0, 1, 3), (1, 1, 9), (2, 1, 3)] := by kernel_rfl
@[simp] theorem zeros_50 : zeros Try.prog 50 = some [Value.int IntKind.i64 0, Value.string { data := { toList := [] } }, Value.int IntKind.i64 0] := by kernel_rfl
@[simp] theorem isinfo_50 : (Try.prog.info? 50).isSome = true := by kernel_rfl
@[simp] theorem isund_50 : (Try.prog.underlying 50).isSome = true := by kernel_rfl
@[simp] theorem cellsOf_51 : Try.prog.cellsOf 51 = 3 := by kernel_rfl
@[simp] theorem bytesOf_51 : Try.prog.bytesOf 51 = 32 := by kernel_rfl
@[simp] theorem slel_51 : slel Try.prog 51 = none := by kernel_rfl
@[simp] theorem isAggB_51 : isAggB Try.prog 51 = true := by kernel_rfl
@[simp] theorem tOk_51 : tOk Try.prog 51 = true := by kernel_rfl
@[simp] theorem arrOf_51 : arrOf Try.prog 51 = none := by kernel_rfl
@[simp] theorem strB_51 : strB Try.prog 51 = false := by kernel_rfl
@[simp] theorem bolB_51 : bolB Try.prog 51 = false := by kernel_rfl
@[simp] theorem mapB_51 : mapB Try.prog 51 = false := by kernel_rfl
@[simp] theorem intK_51 : intK Try.prog 51 = none := by kernel_rfl
@[simp] theorem zrow_51 : zrow Try.prog 51 = some [AV.sc (Value.int IntKind.i64 0), AV.sc (Value.string { data := { toList := [] } }), AV.sc (Value.int IntKind.i64 0)] := by kernel_rfl
@[simp] theorem bldOk_51 : bldOk Try.prog 51 = true := by kernel_rfl
@[simp] theorem tcs_51 : tcs Try.prog 51 = [3, 9, 3] := by kernel_rfl
@[simp] theorem srcT_51 : srcT Try.prog 51 = false := by kernel_rfl
@[simp] theorem zok_51 : zok Try.prog 51 = true := by kernel_rfl
@[simp] theorem flds_51 : flds Try.prog 51 = [(0, 1, 3), (1, 1, 9), (2, 1, 3)] := by kernel_rfl
@[simp] theorem zeros_51 : zeros Try.prog 51 = some [Value.int IntKind.i64 0, Value.string { data := { toList := [] } }, Value.int IntKind.i64 0] := by kernel_rfl
@[simp] theorem isinfo_51 : (Try.prog.info? 51).isSome = true := by kernel_rfl
@[simp] theorem isund_51 : (Try.prog.underlying 51).isSome = true := by kernel_rfl
@[simp] theorem cellsOf_52 : Try.prog.cellsOf 52 = 1 := by kernel_rfl
@[simp] theorem bytesOf_52 : Try.prog.bytesOf 52 = 8 := by kernel_rfl
@[simp] theorem slel_52 : slel Try.prog 52 = none := by kernel_rfl
@[simp] theorem isAggB_52 : isAggB Try.prog 52 = false := by kernel_rfl
@[simp] theorem tOk_52 : tOk Try.prog 52 = true := by kernel_rfl
@[simp] theorem arrOf_52 : arrOf Try.prog 52 = none := by kernel_rfl
@[simp] theorem strB_52 : strB Try.prog 52 = false := by kernel_rfl
@[simp] theorem bolB_52 : bolB Try.prog 52 = false := by kernel_rfl
@[simp] theorem mapB_52 : mapB Try.prog 52 = false := by kernel_rfl
@[simp] theorem intK_52 : intK Try.prog 52 = none := by kernel_rfl
@[simp] theorem zrow_52 : zrow Try.prog 52 = some [AV.sc Value.nilFunc] := by kernel_rfl
@[simp] theorem bldOk_52 : bldOk Try.prog 52 = false := by kernel_rfl
@[simp] theorem tcs_52 : tcs Try.prog 52 = [52] := by kernel_rfl
@[simp] theorem srcT_52 : srcT Try.prog 52 = false := by kernel_rfl
@[simp] theorem zok_52 : zok Try.prog 52 = true := by kernel_rfl
@[simp] theorem flds_52 : flds Try.prog 52 = [] := by kernel_rfl
@[simp] theorem zeros_52 : zeros Try.prog 52 = some [Value.nilFunc] := by kernel_rfl
@[simp] theorem isinfo_52 : (Try.prog.info? 52).isSome = true := by kernel_rfl
@[simp] theorem isund_52 : (Try.prog.underlying 52).isSome = true := by kernel_rfl
@[simp] theorem cellsOf_53 : Try.prog.cellsOf 53 = 1 := by kernel_rfl
@[simp] theorem bytesOf_53 : Try.prog.bytesOf 53 = 8 := by kernel_rfl
@[simp] theorem slel_53 : slel Try.prog 53 = none := by kernel_rfl
@[simp] theorem isAggB_53 : isAggB Try.prog 53 = false := by kernel_rfl
@[simp] theorem tOk_53 : tOk Try.prog 53 = true := by kernel_rfl
@[simp] theorem arrOf_53 : arrOf Try.prog 53 = none := by kernel_rfl
@[simp] theorem strB_53 : strB Try.prog 53 = false := by kernel_rfl
@[simp] theorem bolB_53 : bolB Try.prog 53 = false := by kernel_rfl
@[simp] theorem mapB_53 : mapB Try.prog 53 = false := by kernel_rfl
@[simp] theorem intK_53 : intK Try.prog 53 = none := by kernel_rfl
@[simp] theorem zrow_53 : zrow Try.prog 53 = some [AV.sc Value.nilFunc] := by kernel_rfl
@[simp] theorem bldOk_53 : bldOk Try.prog 53 = false := by kernel_rfl
@[simp] theorem tcs_53 : tcs Try.prog 53 = [53] := by kernel_rfl
@[simp] theorem srcT_53 : srcT Try.prog 53 = false := by kernel_rfl
@[simp] theorem zok_53 : zok Try.prog 53 = true := by kernel_rfl
@[simp] theorem flds_53 : flds Try.prog 53 = [] := by kernel_rfl
@[simp] theorem zeros_53 : zeros Try.prog 53 = some [Value.nilFunc] := by kernel_rfl
@[simp] theorem isinfo_53 : (Try.prog.info? 53).isSome = true := by kernel_rfl
@[simp] theorem isund_53 : (Try.prog.underlying 53).isSome = true := by kernel_rfl
@[simp] theorem cellsOf_54 : Try.prog.cellsOf 54 = 4 := by kernel_rfl
@[simp] theorem bytesOf_54 : Try.prog.bytesOf 54 = 32 := by kernel_rfl
@[simp] theorem slel_54 : slel Try.prog 54 = none := by kernel_rfl
@[simp] theorem isAggB_54 : isAggB Try.prog 54 = true := by kernel_rfl
@[simp] theorem tOk_54 : tOk Try.prog 54 = true := by kernel_rfl
@[simp] theorem arrOf_54 : arrOf Try.prog 54 = none := by kernel_rfl
@[simp] theorem strB_54 : strB Try.prog 54 = false := by kernel_rfl
@[simp] theorem bolB_54 : bolB Try.prog 54 = false := by kernel_rfl
@[simp] theorem mapB_54 : mapB Try.prog 54 = false := by kernel_rfl
@[simp] theorem intK_54 : intK Try.prog 54 = none := by kernel_rfl
@[simp] theorem zrow_54 : zrow Try.prog 54 = some [AV.sc (Value.int IntKind.i64 0), AV.sc (Value.int IntKind.i64 0), AV.sc (Value.int IntKind.i64 0), AV.sc (Value.int IntKind.i64 0)] := by kernel_rfl
@[simp] theorem bldOk_54 : bldOk Try.prog 54 = true := by kernel_rfl
@[simp] theorem tcs_54 : tcs Try.prog 54 = [3, 3, 3, 3] := by kernel_rfl
@[simp] theorem srcT_54 : srcT Try.prog 54 = false := by kernel_rfl
@[simp] theorem zok_54 : zok Try.prog 54 = true := by kernel_rfl
@[simp] theorem flds_54 : flds Try.prog 54 = [(0, 1, 3), (1, 1, 3), (2, 1, 3), (3, 1, 3)] := by kernel_rfl
@[simp] theorem zeros_54 : zeros Try.prog 54 = some [Value.int IntKind.i64 0, Value.int IntKind.i64 0, Value.int IntKind.i64 0, Value.int IntKind.i64 0] := by kernel_rfl
@[simp] theorem isinfo_54 : (Try.prog.info? 54).isSome = true := by kernel_rfl
@[simp] theorem isund_54 : (Try.prog.underlying 54).isSome = true := by kernel_rfl
@[simp] theorem cellsOf_55 : Try.prog.cellsOf 55 = 4 := by kernel_rfl
@[simp] theorem bytesOf_55 : Try.prog.bytesOf 55 = 32 := by kernel_rfl
@[simp] theorem slel_55 : slel Try.prog 55 = none := by kernel_rfl
@[simp] theorem isAggB_55 : isAggB Try.prog 55 = true := by kernel_rfl
@[simp] theorem tOk_55 : tOk Try.prog 55 = true := by kernel_rfl
@[simp] theorem arrOf_55 : arrOf Try.prog 55 = none := by kernel_rfl
@[simp] theorem strB_55 : strB Try.prog 55 = false := by kernel_rfl
@[simp] theorem bolB_55 : bolB Try.prog 55 = false := by kernel_rfl
@[simp] theorem mapB_55 : mapB Try.prog 55 = false := by kernel_rfl
@[simp] theorem intK_55 : intK Try.prog 55 = none := by kernel_rfl
@[simp] theorem zrow_55 : zrow Try.prog 55 = some [AV.sc (Value.int IntKind.i64 0), AV.sc (Value.int IntKind.i64 0), AV.sc (Value.int IntKind.i64 0), AV.sc (Value.int IntKind.i64 0)] := by kernel_rfl
@[simp] theorem bldOk_55 : bldOk Try.prog 55 = true := by kernel_rfl
@[simp] theorem tcs_55 : tcs Try.prog 55 = [3, 3, 3, 3] := by kernel_rfl
@[simp] theorem srcT_55 : srcT Try.prog 55 = false := by kernel_rfl
@[simp] theorem zok_55 : zok Try.prog 55 = true := by kernel_rfl
@[simp] theorem flds_55 : flds Try.prog 55 = [(0, 1, 3), (1, 1, 3), (2, 1, 3), (3, 1, 3)] := by kernel_rfl
@[simp] theorem zeros_55 : zeros Try.prog 55 = some [Value.int IntKind.i64 0, Value.int IntKind.i64 0, Value.int IntKind.i64 0, Value.int IntKind.i64 0] := by kernel_rfl
@[simp] theorem isinfo_55 : (Try.prog.info? 55).isSome = true := by kernel_rfl
@[simp] theorem isund_55 : (Try.prog.underlying 55).isSome = true := by kernel_rfl
@[simp] theorem cellsOf_56 : Try.prog.cellsOf 56 = 1 := by kernel_rfl
@[simp] theorem bytesOf_56 : Try.prog.bytesOf 56 = 8 := by kernel_rfl
@[simp] theorem slel_56 : slel Try.prog 56 = none := by kernel_rfl
@[simp] theorem isAggB_56 : isAggB Try.prog 56 = false := by kernel_rfl
@[simp] theorem tOk_56 : tOk Try.prog 56 = true := by kernel_rfl
@[simp] theorem arrOf_56 : arrOf Try.prog 56 = none := by kernel_rfl
@[simp] theorem strB_56 : strB Try.prog 56 = false := by kernel_rfl
@[simp] theorem bolB_56 : bolB Try.prog 56 = false := by kernel_rfl
@[simp] theorem mapB_56 : mapB Try.prog 56 = false := by kernel_rfl
@[simp] theorem intK_56 : intK Try.prog 56 = none := by kernel_rfl
@[simp] theorem zrow_56 : zrow Try.prog 56 = some [AV.sc Value.nilFunc] := by kernel_rfl
@[simp] theorem bldOk_56 : bldOk Try.prog 56 = false := by kernel_rfl
@[simp] theorem tcs_56 : tcs Try.prog 56 = [56] := by kernel_rfl
@[simp] theorem srcT_56 : srcT Try.prog 56 = false := by kernel_rfl
@[simp] theorem zok_56 : zok Try.prog 56 = true := by kernel_rfl
@[simp] theorem flds_56 : flds Try.prog 56 = [] := by kernel_rfl
@[simp] theorem zeros_56 : zeros Try.prog 56 = some [Value.nilFunc] := by kernel_rfl
@[simp] theorem isinfo_56 : (Try.prog.info? 56).isSome = true := by kernel_rfl
@[simp] theorem isund_56 : (Try.prog.underlying 56).isSome = true := by kernel_rfl
@[simp] theorem cellsOf_57 : Try.prog.cellsOf 57 = 1 := by kernel_rfl
@[simp] theorem bytesOf_57 : Try.prog.bytesOf 57 = 8 := by kernel_rfl
@[simp] theorem slel_57 : slel Try.prog 57 = none := by kernel_rfl
@[simp] theorem isAggB_57 : isAggB Try.prog 57 = false := by kernel_rfl
@[simp] theorem tOk_57 : tOk Try.prog 57 = true := by kernel_rfl
@[simp] theorem arrOf_57 : arrOf Try.prog 57 = none := by kernel_rfl
@[simp] theorem strB_57 : strB Try.prog 57 = false := by kernel_rfl
@[simp] theorem bolB_57 : bolB Try.prog 57 = false := by kernel_rfl
@[simp] theorem mapB_57 : mapB Try.prog 57 = false := by kernel_rfl
@[simp] theorem intK_57 : intK Try.prog 57 = none := by kernel_rfl
@[simp] theorem zrow_57 : zrow Try.prog 57 = some [AV.sc Value.nilFunc] := by kernel_rfl
@[simp] theorem bldOk_57 : bldOk Try.prog 57 = false := by kernel_rfl
@[simp] theorem tcs_57 : tcs Try.prog 57 = [57] := by kernel_rfl
@[simp] theorem srcT_57 : srcT Try.prog 57 = false := by kernel_rfl
@[simp] theorem zok_57 : zok Try.prog 57 = true := by kernel_rfl
@[simp] theorem flds_57 : flds Try.prog 57 = [] := by kernel_rfl
@[simp] theorem zeros_57 : zeros Try.prog 57 = some [Value.nilFunc] := by kernel_rfl
@[simp] theorem isinfo_57 : (Try.prog.info? 57).isSome = true := by kernel_rfl
@[simp] theorem isund_57 : (Try.prog.underlying 57).isSome = true := by kernel_rfl
@[simp] theorem cellsOf_58 : Try.prog.cellsOf 58 = 16 := by kernel_rfl
@[simp] theorem bytesOf_58 : Try.prog.bytesOf 58 = 64 := by kernel_rfl
@[simp] theorem slel_58 : slel Try.prog 58 = none := by kernel_rfl
@[simp] theorem isAggB_58 : isAggB Try.prog 58 = true := by kernel_rfl
@[simp] theorem tOk_58 : tOk Try.prog 58 = true := by kernel_rfl
@[simp] theorem arrOf_58 : arrOf Try.prog 58 = some (16, 36) := by kernel_rfl
@[simp] theorem strB_58 : strB Try.prog 58 = false := by kernel_rfl
@[simp] theorem bolB_58 : bolB Try.prog 58 = false := by kernel_rfl
@[simp] theorem mapB_58 : mapB Try.prog 58 = false := by kernel_rfl
@[simp] theorem intK_58 : intK Try.prog 58 = none := by kernel_rfl
@[simp] theorem zrow_58 : zrow Try.prog 58 = some [AV.sc (Value.int IntKind.u32 0), AV.sc (Value.int IntKind.u32 0), AV.sc (Value.int IntKind.u32 0), AV.sc (Value.int IntKind.u32 0), AV.sc (Value.int IntKind.u32 0), AV.sc (Value.int IntKind.u32 0), AV.sc (Value.int IntKind.u32 0), AV.sc (Value.int IntKind.u32 0), AV.sc (Value.int IntKind.u32 0), AV.sc (Value.int IntKind.u32 0), AV.sc (Value.int IntKind.u32 0), AV.sc (Value.int IntKind.u32 0), AV.sc (Value.int IntKind.u32 0), AV.sc (Value.int IntKind.u32 0), AV.sc (Value.int IntKind.u32 0), AV.sc (Value.int IntKind.u32 0)] := by kernel_rfl
@[simp] theorem bldOk_58 : bldOk Try.prog 58 = true := by kernel_rfl
@[simp] theorem tcs_58 : tcs Try.prog 58 = [36, 36, 36, 36, 36, 36, 36, 36, 36, 36, 36, 36, 36, 36, 36, 36] := by kernel_rfl
@[simp] theorem srcT_58 : srcT Try.prog 58 = false := by kernel_rfl
@[simp] theorem zok_58 : zok Try.prog 58 = true := by kernel_rfl
@[simp] theorem flds_58 : flds Try.prog 58 = [] := by kernel_rfl
@[simp] theorem zeros_58 : zeros Try.prog 58 = some [Value.int IntKind.u32 0, Value.int IntKind.u32 0, Value.int IntKind.u32 0, Value.int IntKind.u32 0, Value.int IntKind.u32 0, Value.int IntKind.u32 0, Value.int IntKind.u32 0, Value.int IntKind.u32 0, Value.int IntKind.u32 0, Value.int IntKind.u32 0, Value.int IntKind.u32 0, Value.int IntKind.u32 0, Value.int IntKind.u32 0, Value.int IntKind.u32 0, Value.int IntKind.u32 0, Value.int IntKind.u32 0] := by kernel_rfl
@[simp] theorem isinfo_58 : (Try.prog.info? 58).isSome = true := by kernel_rfl
@[simp] theorem isund_58 : (Try.prog.underlying 58).isSome = true := by kernel_rfl
@[simp] theorem cellsOf_59 : Try.prog.cellsOf 59 = 22 := by kernel_rfl
@[simp] theorem bytesOf_59 : Try.prog.bytesOf 59 = 136 := by kernel_rfl
@[simp] theorem slel_59 : slel Try.prog 59 = none := by kernel_rfl
@[simp] theorem isAggB_59 : isAggB Try.prog 59 = true := by kernel_rfl
@[simp] theorem tOk_59 : tOk Try.prog 59 = true := by kernel_rfl
@[simp] theorem arrOf_59 : arrOf Try.prog 59 = none := by kernel_rfl
@[simp] theorem strB_59 : strB Try.prog 59 = false := by kernel_rfl
@[simp] theorem bolB_59 : bolB Try.prog 59 = false := by kernel_rfl
@[simp] theorem mapB_59 : mapB Try.prog 59 = false := by kernel_rfl
@[simp] theorem intK_59 : intK Try.prog 59 = none := by kernel_rfl
@[simp] theorem zrow_59 : zrow Try.prog 59 = some [AV.sc (Value.int IntKind.i64 0), AV.sc (Value.int IntKind.u32 0), AV.sc (Value.int IntKind.u32 0), AV.sc (Value.int IntKind.u32 0), AV.sc (Value.int IntKind.u32 0), AV.sc (Value.int IntKind.u32 0), AV.sc (Value.int IntKind.u32 0), AV.sc (Value.int IntKind.u32 0), AV.sc (Value.int IntKind.u32 0), AV.sc (Value.int IntKind.u32 0), AV.sc (Value.int IntKind.u32 0), AV.sc (Value.int IntKind.u32 0), AV.sc (Value.int IntKind.u32 0), AV.sc (Value.int IntKind.u32 0), AV.sc (Value.int IntKind.u32 0), AV.sc (Value.int IntKind.u32 0), AV.sc (Value.int IntKind.u32 0), AV.sl false 1 [], AV.sc (Value.int IntKind.i64 0), AV.sc (Value.string { data := { toList := [] } }), AV.sc (Value.int IntKind.i64 0), AV.sc (Value.int IntKind.i64 0)] := by kernel_rfl
@[simp] theorem bldOk_59 : bldOk Try.prog 59 = true := by kernel_rfl
@[simp] theorem tcs_59 : tcs Try.prog 59 = [3, 36, 36, 36, 36, 36, 36, 36, 36, 36, 36, 36, 36, 36, 36, 36, 36, 22, 3, 9, 3, 3] := by kernel_rfl
@[simp] theorem srcT_59 : srcT Try.prog 59 = false := by kernel_rfl
@[simp] theorem zok_59 : zok Try.prog 59 = true := by kernel_rfl
@[simp] theorem flds_59 : flds Try.prog 59 = [(0, 1, 3), (1, 16, 58), (17, 1, 22), (18, 1, 3), (19, 1, 9), (20, 1, 3), (21, 1, 3)] := by kernel_rfl
@[simp] theorem zeros_59 : zeros Try.prog 59 = some [Value.int IntKind.i64 0, Value.int IntKind.u32 0, Value.int IntKind.u32 0, Value.int IntKind.u32 0, Value.int IntKind.u32 0, Value.int IntKind.u32 0, Value.int IntKind.u32 0, Value.int IntKind.u32 0, Value.int IntKind.u32 0, Value.int IntKind.u32 0, Value.int IntKind.u32 0, Value.int IntKind.u32 0, Value.int IntKind.u32 0, Value.int IntKind.u32 0, Value.int IntKind.u32 0, Value.int IntKind.u32 0, Value.int IntKind.u32 0, Value.slice none 0 0, Value.int IntKind.i64 0, Value.string { data := { toList := [] } }, Value.int IntKind.i64 0, Value.int IntKind.i64 0] := by kernel_rfl
@[simp] theorem isinfo_59 : (Try.prog.info? 59).isSome = true := by kernel_rfl
@[simp] theorem isund_59 : (Try.prog.underlying 59).isSome = true := by kernel_rfl
@[simp] theorem cellsOf_60 : Try.prog.cellsOf 60 = 22 := by kernel_rfl
@[simp] theorem bytesOf_60 : Try.prog.bytesOf 60 = 136 := by kernel_rfl
@[simp] theorem slel_60 : slel Try.prog 60 = none := by kernel_rfl
@[simp] theorem isAggB_60 : isAggB Try.prog 60 = true := by kernel_rfl
@[simp] theorem tOk_60 : tOk Try.prog 60 = true := by kernel_rfl
@[simp] theorem arrOf_60 : arrOf Try.prog 60 = none := by kernel_rfl
@[simp] theorem strB_60 : strB Try.prog 60 = false := by kernel_rfl
@[simp] theorem bolB_60 : bolB Try.prog 60 = false := by kernel_rfl
@[simp] theorem mapB_60 : mapB Try.prog 60 = false := by kernel_rfl
@[simp] theorem intK_60 : intK Try.prog 60 = none := by kernel_rfl
@[simp] theorem zrow_60 : zrow Try.prog 60 = some [AV.sc (Value.int IntKind.i64 0), AV.sc (Value.int IntKind.u32 0), AV.sc (Value.int IntKind.u32 0), AV.sc (Value.int IntKind.u32 0), AV.sc (Value.int IntKind.u32 0), AV.sc (Value.int IntKind.u32 0), AV.sc (Value.int IntKind.u32 0), AV.sc (Value.int IntKind.u32 0), AV.sc (Value.int IntKind.u32 0), AV.sc (Value.int IntKind.u32 0), AV.sc (Value.int IntKind.u32 0), AV.sc (Value.int IntKind.u32 0), AV.sc (Value.int IntKind.u32 0), AV.sc (Value.int IntKind.u32 0), AV.sc (Value.int IntKind.u32 0), AV.sc (Value.int IntKind.u32 0), AV.sc (Value.int IntKind.u32 0), AV.sl false 1 [], AV.sc (Value.int IntKind.i64 0), AV.sc (Value.string { data := { toList := [] } }), AV.sc (Value.int IntKind.i64 0), AV.sc (Value.int IntKind.i64 0)] := by kernel_rfl
@[simp] theorem bldOk_60 : bldOk Try.prog 60 = true := by kernel_rfl
@[simp] theorem tcs_60 : tcs Try.prog 60 = [3, 36, 36, 36, 36, 36, 36, 36, 36, 36, 36, 36, 36, 36, 36, 36, 36, 22, 3, 9, 3, 3] := by kernel_rfl
@[simp] theorem srcT_60 : srcT Try.prog 60 = false := by kernel_rfl
@[simp] theorem zok_60 : zok Try.prog 60 = true := by kernel_rfl
@[simp] theorem flds_60 : flds Try.prog 60 = [(0, 1, 3), (1, 16, 58), (17, 1, 22), (18, 1, 3), (19, 1, 9), (20, 1, 3), (21, 1, 3)] := by kernel_rfl
@[simp] theorem zeros_60 : zeros Try.prog 60 = some [Value.int IntKind.i64 0, Value.int IntKind.u32 0, Value.int IntKind.u32 0, Value.int IntKind.u32 0, Value.int IntKind.u32 0, Value.int IntKind.u32 0, Value.int IntKind.u32 0, Value.int IntKind.u32 0, Value.int IntKind.u32 0, Value.int IntKind.u32 0, Value.int IntKind.u32 0, Value.int IntKind.u32 0, Value.int IntKind.u32 0, Value.int IntKind.u32 0, Value.int IntKind.u32 0, Value.int IntKind.u32 0, Value.int IntKind.u32 0, Value.slice none 0 0, Value.int IntKind.i64 0, Value.string { data := { toList := [] } }, Value.int IntKind.i64 0, Value.int IntKind.i64 0] := by kernel_rfl
@[simp] theorem isinfo_60 : (Try.prog.info? 60).isSome = true := by kernel_rfl
@[simp] theorem isund_60 : (Try.prog.underlying 60).isSome = true := by kernel_rfl
@[simp] theorem cellsOf_61 : Try.prog.cellsOf 61 = 1 := by kernel_rfl
@[simp] theorem bytesOf_61 : Try.prog.bytesOf 61 = 8 := by kernel_rfl
@[simp] theorem slel_61 : slel Try.prog 61 = none := by kernel_rfl
@[simp] theorem isAggB_61 : isAggB Try.prog 61 = false := by kernel_rfl
@[simp] theorem tOk_61 : tOk Try.prog 61 = true := by kernel_rfl
@[simp] theorem arrOf_61 : arrOf Try.prog 61 = none := by kernel_rfl
@[simp] theorem strB_61 : strB Try.prog 61 = false := by kernel_rfl
@[simp] theorem bolB_61 : bolB Try.prog 61 = false := by kernel_rfl
@[simp] theorem mapB_61 : mapB Try.prog 61 = false := by kernel_rfl
@[simp] theorem intK_61 : intK Try.prog 61 = none := by kernel_rfl
@[simp] theorem zrow_61 : zrow Try.prog 61 = some [AV.sc Value.nilFunc] := by kernel_rfl
@[simp] theorem bldOk_61 : bldOk Try.prog 61 = false := by kernel_rfl
@[simp] theorem tcs_61 : tcs Try.prog 61 = [61] := by kernel_rfl
@[simp] theorem srcT_61 : srcT Try.prog 61 = false := by kernel_rfl
@[simp] theorem zok_61 : zok Try.prog 61 = true := by kernel_rfl
@[simp] theorem flds_61 : flds Try.prog 61 = [] := by kernel_rfl
@[simp] theorem zeros_61 : zeros Try.prog 61 = some [Value.nilFunc] := by kernel_rfl
@[simp] theorem isinfo_61 : (Try.prog.info? 61).isSome = true := by kernel_rfl
@[simp] theorem isund_61 : (Try.prog.underlying 61).isSome = true := by kernel_rfl
@[simp] theorem cellsOf_62 : Try.prog.cellsOf 62 = 1 := by kernel_rfl
@[simp] theorem bytesOf_62 : Try.prog.bytesOf 62 = 8 := by kernel_rfl
@[simp] theorem slel_62 : slel Try.prog 62 = none := by kernel_rfl
@[simp] theorem isAggB_62 : isAggB Try.prog 62 = false := by kernel_rfl
@[simp] theorem tOk_62 : tOk Try.prog 62 = true := by kernel_rfl
@[simp] theorem arrOf_62 : arrOf Try.prog 62 = none := by kernel_rfl
@[simp] theorem strB_62 : strB Try.prog 62 = false := by kernel_rfl
@[simp] theorem bolB_62 : bolB Try.prog 62 = false := by kernel_rfl
@[simp] theorem mapB_62 : mapB Try.prog 62 = false := by kernel_rfl
@[simp] theorem intK_62 : intK Try.prog 62 = none := by kernel_rfl
@[simp] theorem zrow_62 : zrow Try.prog 62 = some [AV.sc Value.nilFunc] := by kernel_rfl
@[simp] theorem bldOk_62 : bldOk Try.prog 62 = false := by kernel_rfl
@[simp] theorem tcs_62 : tcs Try.prog 62 = [62] := by kernel_rfl
@[simp] theorem srcT_62 : srcT Try.prog 62 = false := by kernel_rfl
@[simp] theorem zok_62 : zok Try.prog 62 = true := by kernel_rfl
@[simp] theorem flds_62 : flds Try.prog 62 = [] := by kernel_rfl
@[simp] theorem zeros_62 : zeros Try.prog 62 = some [Value.nilFunc] := by kernel_rfl
@[simp] theorem isinfo_62 : (Try.prog.info? 62).isSome = true := by kernel_rfl
@[simp] theorem isund_62 : (Try.prog.underlying 62).isSome = true := by kernel_rfl
@[simp] theorem cellsOf_63 : Try.prog.cellsOf 63 = 1 := by kernel_rfl
@[simp] theorem bytesOf_63 : Try.prog.bytesOf 63 = 8 := by kernel_rfl
@[simp] theorem slel_63 : slel Try.prog 63 = none := by kernel_rfl
@[simp] theorem isAggB_63 : isAggB Try.prog 63 = false := by kernel_rfl
@[simp] theorem tOk_63 : tOk Try.prog 63 = true := by kernel_rfl
@[simp] theorem arrOf_63 : arrOf Try.prog 63 = none := by kernel_rfl
@[simp] theorem strB_63 : strB Try.prog 63 = false := by kernel_rfl
@[simp] theorem bolB_63 : bolB Try.prog 63 = false := by kernel_rfl
@[simp] theorem mapB_63 : mapB Try.prog 63 = false := by kernel_rfl
@[simp] theorem intK_63 : intK Try.prog 63 = none := by kernel_rfl
@[simp] theorem zrow_63 : zrow Try.prog 63 = some [AV.sc Value.nilFunc] := by kernel_rfl
@[simp] theorem bldOk_63 : bldOk Try.prog 63 = false := by kernel_rfl
@[simp] theorem tcs_63 : tcs Try.prog 63 = [63] := by kernel_rfl
@[simp] theorem srcT_63 : srcT Try.prog 63 = false := by kernel_rfl
@[simp] theorem zok_63 : zok Try.prog 63 = true := by kernel_rfl
@[simp] theorem flds_63 : flds Try.prog 63 = [] := by kernel_rfl
@[simp] theorem zeros_63 : zeros Try.prog 63 = some [Value.nilFunc] := by kernel_rfl
@[simp] theorem isinfo_63 : (Try.prog.info? 63).isSome = true := by kernel_rfl
@[simp] theorem isund_63 : (Try.prog.underlying 63).isSome = true := by kernel_rfl
@[simp] theorem cellsOf_64 : Try.prog.cellsOf 64 = 1 := by kernel_rfl
@[simp] theorem bytesOf_64 : Try.prog.bytesOf 64 = 8 := by kernel_rfl
@[simp] theorem slel_64 : slel Try.prog 64 = none := by kernel_rfl
@[simp] theorem isAggB_64 : isAggB Try.prog 64 = false := by kernel_rfl
@[simp] theorem tOk_64 : tOk Try.prog 64 = true := by kernel_rfl
@[simp] theorem arrOf_64 : arrOf Try.prog 64 = none := by kernel_rfl
@[simp] theorem strB_64 : strB Try.prog 64 = false := by kernel_rfl
@[simp] theorem bolB_64 : bolB Try.prog 64 = false := by kernel_rfl
@[simp] theorem mapB_64 : mapB Try.prog 64 = false := by kernel_rfl
@[simp] theorem intK_64 : intK Try.prog 64 = none := by kernel_rfl
@[simp] theorem zrow_64 : zrow Try.prog 64 = some [AV.sc Value.nilFunc] := by kernel_rfl
@[simp] theorem bldOk_64 : bldOk Try.prog 64 = false := by kernel_rfl
@[simp] theorem tcs_64 : tcs Try.prog 64 = [64] := by kernel_rfl
@[simp] theorem srcT_64 : srcT Try.prog 64 = false := by kernel_rfl
@[simp] theorem zok_64 : zok Try.prog 64 = true := by kernel_rfl
@[simp] theorem flds_64 : flds Try.prog 64 = [] := by kernel_rfl
@[simp] theorem zeros_64 : zeros Try.prog 64 = some [Value.nilFunc] := by kernel_rfl
@[simp] theorem isinfo_64 : (Try.prog.info? 64).isSome = true := by kernel_rfl
@[simp] theorem isund_64 : (Try.prog.underlying 64).isSome = true := by kernel_rfl
@[simp] theorem cellsOf_65 : Try.prog.cellsOf 65 = 1 := by kernel_rfl
@[simp] theorem bytesOf_65 : Try.prog.bytesOf 65 = 8 := by kernel_rfl
@[simp] theorem slel_65 : slel Try.prog 65 = none := by kernel_rfl
@[simp] theorem isAggB_65 : isAggB Try.prog 65 = false := by kernel_rfl
@[simp] theorem tOk_65 : tOk Try.prog 65 = true := by kernel_rfl
@[simp] theorem arrOf_65 : arrOf Try.prog 65 = none := by kernel_rfl
@[simp] theorem strB_65 : strB Try.prog 65 = false := by kernel_rfl
@[simp] theorem bolB_65 : bolB Try.prog 65 = false := by kernel_rfl
@[simp] theorem mapB_65 : mapB Try.prog 65 = false := by kernel_rfl
@[simp] theorem intK_65 : intK Try.prog 65 = none := by kernel_rfl
@[simp] theorem zrow_65 : zrow Try.prog 65 = some [AV.sc Value.nilFunc] := by kernel_rfl
@[simp] theorem bldOk_65 : bldOk Try.prog 65 = false := by kernel_rfl
@[simp] theorem tcs_65 : tcs Try.prog 65 = [65] := by kernel_rfl
@[simp] theorem srcT_65 : srcT Try.prog 65 = false := by kernel_rfl
@[simp] theorem zok_65 : zok Try.prog 65 = true := by kernel_rfl
@[simp] theorem flds_65 : flds Try.prog 65 = [] := by kernel_rfl
@[simp] theorem zeros_65 : zeros Try.prog 65 = some [Value.nilFunc] := by kernel_rfl
@[simp] theorem isinfo_65 : (Try.prog.info? 65).isSome = true := by kernel_rfl
@[simp] theorem isund_65 : (Try.prog.underlying 65).isSome = true := by kernel_rfl
@[simp] theorem cellsOf_66 : Try.prog.cellsOf 66 = 1 := by kernel_rfl
@[simp] theorem bytesOf_66 : Try.prog.bytesOf 66 = 8 := by kernel_rfl
@[simp] theorem slel_66 : slel Try.prog 66 = none := by kernel_rfl
@[simp] theorem isAggB_66 : isAggB Try.prog 66 = false := by kernel_rfl
@[simp] theorem tOk_66 : tOk Try.prog 66 = true := by kernel_rfl
@[simp] theorem arrOf_66 : arrOf Try.prog 66 = none := by kernel_rfl
@[simp] theorem strB_66 : strB Try.prog 66 = false := by kernel_rfl
@[simp] theorem bolB_66 : bolB Try.prog 66 = false := by kernel_rfl
@[simp] theorem mapB_66 : mapB Try.prog 66 = false := by kernel_rfl
@[simp] theorem intK_66 : intK Try.prog 66 = none := by kernel_rfl
@[simp] theorem zrow_66 : zrow Try.prog 66 = some [AV.sc Value.nilFunc] := by kernel_rfl
@[simp] theorem bldOk_66 : bldOk Try.prog 66 = false := by kernel_rfl
@[simp] theorem tcs_66 : tcs Try.prog 66 = [66] := by kernel_rfl
@[simp] theorem srcT_66 : srcT Try.prog 66 = false := by kernel_rfl
@[simp] theorem zok_66 : zok Try.prog 66 = true := by kernel_rfl
@[simp] theorem flds_66 : flds Try.prog 66 = [] := by kernel_rfl
@[simp] theorem zeros_66 : zeros Try.prog 66 = some [Value.nilFunc] := by kernel_rfl
@[simp] theorem isinfo_66 : (Try.prog.info? 66).isSome = true := by kernel_rfl
@[simp] theorem isund_66 : (Try.prog.underlying 66).isSome = true := by kernel_rfl
@[simp] theorem cellsOf_67 : Try.prog.cellsOf 67 = 1 := by kernel_rfl
@[simp] theorem bytesOf_67 : Try.prog.bytesOf 67 = 8 := by kernel_rfl
@[simp] theorem slel_67 : slel Try.prog 67 = none := by kernel_rfl
@[simp] theorem isAggB_67 : isAggB Try.prog 67 = false := by kernel_rfl
@[simp] theorem tOk_67 : tOk Try.prog 67 = true := by kernel_rfl
@[simp] theorem arrOf_67 : arrOf Try.prog 67 = none := by kernel_rfl
@[simp] theorem strB_67 : strB Try.prog 67 = false := by kernel_rfl
@[simp] theorem bolB_67 : bolB Try.prog 67 = false := by kernel_rfl
@[simp] theorem mapB_67 : mapB Try.prog 67 = false := by kernel_rfl
@[simp] theorem intK_67 : intK Try.prog 67 = some IntKind.u64 := by kernel_rfl
@[simp] theorem zrow_67 : zrow Try.prog 67 = some [AV.sc (Value.int IntKind.u64 0)] := by kernel_rfl
@[simp] theorem bldOk_67 : bldOk Try.prog 67 = false := by kernel_rfl
@[simp] theorem tcs_67 : tcs Try.prog 67 = [67] := by kernel_rfl
@[simp] theorem srcT_67 : srcT Try.prog 67 = false := by kernel_rfl
@[simp] theorem zok_67 : zok Try.prog 67 = true := by kernel_rfl
@[simp] theorem flds_67 : flds Try.prog 67 = [] := by kernel_rfl
@[simp] theorem zeros_67 : zeros Try.prog 67 = some [Value.int IntKind.u64 0] := by kernel_rfl
@[simp] theorem isinfo_67 : (Try.prog.info? 67).isSome = true := by kernel_rfl
@[simp] theorem isund_67 : (Try.prog.underlying 67).isSome = true := by kernel_rfl
@[simp] theorem cellsOf_68 : Try.prog.cellsOf 68 = 1 := by kernel_rfl
@[simp] theorem bytesOf_68 : Try.prog.bytesOf 68 = 24 := by kernel_rfl
@[simp] theorem slel_68 : slel Try.prog 68 = some 55 := by kernel_rfl
@[simp] theorem isAggB_68 : isAggB Try.prog 68 = false := by kernel_rfl
@[simp] theorem tOk_68 : tOk Try.prog 68 = true := by kernel_rfl
@[simp] theorem arrOf_68 : arrOf Try.prog 68 = none := by kernel_rfl
@[simp] theorem strB_68 : strB Try.prog 68 = false := by kernel_rfl
@[simp] theorem bolB_68 : bolB Try.prog 68 = false := by kernel_rfl
@[simp] theorem mapB_68 : mapB Try.prog 68 = false := by kernel_rfl
@[simp] theorem intK_68 : intK Try.prog 68 = none := by kernel_rfl
@[simp] theorem zrow_68 : zrow Try.prog 68 = some [AV.sl false 4 []] := by kernel_rfl
@[simp] theorem bldOk_68 : bldOk Try.prog 68 = false := by kernel_rfl
@[simp] theorem tcs_68 : tcs Try.prog 68 = [68] := by kernel_rfl
@[simp] theorem srcT_68 : srcT Try.prog 68 = true := by kernel_rfl
@[simp] theorem zok_68 : zok Try.prog 68 = true := by kernel_rfl
@[simp] theorem flds_68 : flds Try.prog 68 = [] := by kernel_rfl
@[simp] theorem zeros_68 : zeros Try.prog 68 = some [Value.slice none 0 0] := by kernel_rfl
@[simp] theorem isinfo_68 : (Try.prog.info? 68).isSome = true := by kernel_rfl
@[simp] theorem isund_68 : (Try.prog.underlying 68).isSome = true := by kernel_rfl
@[simp] theorem cellsOf_69 : Try.prog.cellsOf 69 = 1 := by kernel_rfl
@[simp] theorem bytesOf_69 : Try.prog.bytesOf 69 = 0 := by kernel_rfl
@[simp] theorem slel_69 : slel Try.prog 69 = none := by kernel_rfl
@[simp] theorem isAggB_69 : isAggB Try.prog 69 = false := by kernel_rfl
@[simp] theorem tOk_69 : tOk Try.prog 69 = true := by kernel_rfl
@[simp] theorem arrOf_69 : arrOf Try.prog 69 = none := by kernel_rfl
@[simp] theorem strB_69 : strB Try.prog 69 = false := by kernel_rfl
@[simp] theorem bolB_69 : bolB Try.prog 69 = false := by kernel_rfl
@[simp] theorem mapB_69 : mapB Try.prog 69 = false := by kernel_rfl
@[simp] theorem intK_69 : intK Try.prog 69 = none := by kernel_rfl
@[simp] theorem zrow_69 : zrow Try.prog 69 = none := by kernel_rfl
@[simp] theorem bldOk_69 : bldOk Try.prog 69 = false := by kernel_rfl
@[simp] theorem tcs_69 : tcs Try.prog 69 = [69] := by kernel_rfl
@[simp] theorem srcT_69 : srcT Try.prog 69 = false := by kernel_rfl
@[simp] theorem zok_69 : zok Try.prog 69 = true := by kernel_rfl
@[simp] theorem flds_69 : flds Try.prog 69 = [] := by kernel_rfl
@[simp] theorem zeros_69 : zeros Try.prog 69 = some [Value.tuple { toList := [Value.int IntKind.u32 0, Value.int IntKind.i64 0] }] := by kernel_rfl
@[simp] theorem isinfo_69 : (Try.prog.info? 69).isSome = true := by kernel_rfl
@[simp] theorem isund_69 : (Try.prog.underlying 69).isSome = true := by kernel_rfl
@[simp] theorem cellsOf_70 : Try.prog.cellsOf 70 = 1 := by kernel_rfl
@[simp] theorem bytesOf_70 : Try.prog.bytesOf 70 = 8 := by kernel_rfl
@[simp] theorem slel_70 : slel Try.prog 70 = none := by kernel_rfl
@[simp] theorem isAggB_70 : isAggB Try.prog 70 = false := by kernel_rfl
@[simp] theorem tOk_70 : tOk Try.prog 70 = true := by kernel_rfl
@[simp] theorem arrOf_70 : arrOf Try.prog 70 = none := by kernel_rfl
@[simp] theorem strB_70 : strB Try.prog 70 = false := by kernel_rfl
@[simp] theorem bolB_70 : bolB Try.prog 70 = false := by kernel_rfl
@[simp] theorem mapB_70 : mapB Try.prog 70 = false := by kernel_rfl
@[simp] theorem intK_70 : intK Try.prog 70 = none := by kernel_rfl
@[simp] theorem zrow_70 : zrow Try.prog 70 = some [AV.sc Value.nilFunc] := by kernel_rfl
@[simp] theorem bldOk_70 : bldOk Try.prog 70 = false := by kernel_rfl
@[simp] theorem tcs_70 : tcs Try.prog 70 = [70] := by kernel_rfl
@[simp] theorem srcT_70 : srcT Try.prog 70 = false := by kernel_rfl
@[simp] theorem zok_70 : zok Try.prog 70 = true := by kernel_rfl
@[simp] theorem flds_70 : flds Try.prog 70 = [] := by kernel_rfl
@[simp] theorem zeros_70 : zeros Try.prog 70 = some [Value.nilFunc] := by kernel_rfl
@[simp] theorem isinfo_70 : (Try.prog.info? 70).isSome = true := by kernel_rfl
@[simp] theorem isund_70 : (Try.prog.underlying 70).isSome = true := by kernel_rfl
@[simp] theorem cellsOf_71 : Try.prog.cellsOf 71 = 1 := by kernel_rfl
@[simp] theorem bytesOf_71 : Try.prog.bytesOf 71 = 24 := by kernel_rfl
@[simp] theorem slel_71 : slel Try.prog 71 = some 5 := by kernel_rfl
@[simp] theorem isAggB_71 : isAggB Try.prog 71 = false := by kernel_rfl
@[simp] theorem tOk_71 : tOk Try.prog 71 = true := by kernel_rfl
@[simp] theorem arrOf_71 : arrOf Try.prog 71 = none := by kernel_rfl
@[simp] theorem strB_71 : strB Try.prog 71 = false := by kernel_rfl
@[simp] theorem bolB_71 : bolB Try.prog 71 = false := by kernel_rfl
@[simp] theorem mapB_71 : mapB Try.prog 71 = false := by kernel_rfl
@[simp] theorem intK_71 : intK Try.prog 71 = none := by kernel_rfl
@[simp] theorem zrow_71 : zrow Try.prog 71 = some [AV.sl false 1 []] := by kernel_rfl
@[simp] theorem bldOk_71 : bldOk Try.prog 71 = false := by kernel_rfl
@[simp] theorem tcs_71 : tcs Try.prog 71 = [71] := by kernel_rfl
@[simp] theorem srcT_71 : srcT Try.prog 71 = true := by kernel_rfl
@[simp] theorem zok_71 : zok Try.prog 71 = true := by kernel_rfl
@[simp] theorem flds_71 : flds Try.prog 71 = [] := by kernel_rfl
@[simp] theorem zeros_71 : zeros Try.prog 71 = some [Value.slice none 0 0] := by kernel_rfl
@[simp] theorem isinfo_71 : (Try.prog.info? 71).isSome = true := by kernel_rfl
@[simp] theorem isund_71 : (Try.prog.underlying 71).isSome = true := by kernel_rfl
@[simp] theorem cellsOf_72 : Try.prog.cellsOf 72 = 1 := by kernel_rfl
@[simp] theorem bytesOf_72 : Try.prog.bytesOf 72 = 8 := by kernel_rfl
@[simp] theorem slel_72 : slel Try.prog 72 = none := by kernel_rfl
@[simp] theorem isAggB_72 : isAggB Try.prog 72 = false := by kernel_rfl
@[simp] theorem tOk_72 : tOk Try.prog 72 = true := by kernel_rfl
@[simp] theorem arrOf_72 : arrOf Try.prog 72 = none := by kernel_rfl
@[simp] theorem strB_72 : strB Try.prog 72 = false := by kernel_rfl
@[simp] theorem bolB_72 : bolB Try.prog 72 = false := by kernel_rfl
@[simp] theorem mapB_72 : mapB Try.prog 72 = false := by kernel_rfl
@[simp] theorem intK_72 : intK Try.prog 72 = some IntKind.u64 := by kernel_rfl
@[simp] theorem zrow_72 : zrow Try.prog 72 = some [AV.sc (Value.int IntKind.u64 0)] := by kernel_rfl
@[simp] theorem bldOk_72 : bldOk Try.prog 72 = false := by kernel_rfl
@[simp] theorem tcs_72 : tcs Try.prog 72 = [72] := by kernel_rfl
@[simp] theorem srcT_72 : srcT Try.prog 72 = false := by kernel_rfl
@[simp] theorem zok_72 : zok Try.prog 72 = true := by kernel_rfl
@[simp] theorem flds_72 : flds Try.prog 72 = [] := by kernel_rfl
@[simp] theorem zeros_72 : zeros Try.prog 72 = some [Value.int IntKind.u64 0] := by kernel_rfl
@[simp] theorem isinfo_72 : (Try.prog.info? 72).isSome = true := by kernel_rfl
@[simp] theorem isund_72 : (Try.prog.underlying 72).isSome = true := by kernel_rfl
@[simp] theorem cellsOf_73 : Try.prog.cellsOf 73 = 1 := by kernel_rfl
@[simp] theorem bytesOf_73 : Try.prog.bytesOf 73 = 24 := by kernel_rfl
@[simp] theorem slel_73 : slel Try.prog 73 = some 3 := by kernel_rfl
@[simp] theorem isAggB_73 : isAggB Try.prog 73 = false := by kernel_rfl
@[simp] theorem tOk_73 : tOk Try.prog 73 = true := by kernel_rfl
@[simp] theorem arrOf_73 : arrOf Try.prog 73 = none := by kernel_rfl
@[simp] theorem strB_73 : strB Try.prog 73 = false := by kernel_rfl
@[simp] theorem bolB_73 : bolB Try.prog 73 = false := by kernel_rfl
@[simp] theorem mapB_73 : mapB Try.prog 73 = false := by kernel_rfl
@[simp] theorem intK_73 : intK Try.prog 73 = none := by kernel_rfl
@[simp] theorem zrow_73 : zrow Try.prog 73 = some [AV.sl false 1 []] := by kernel_rfl
@[simp] theorem bldOk_73 : bldOk Try.prog 73 = false := by kernel_rfl
@[simp] theorem tcs_73 : tcs Try.prog 73 = [73] := by kernel_rfl
@[simp] theorem srcT_73 : srcT Try.prog 73 = true := by kernel_rfl
@[simp] theorem zok_73 : zok Try.prog 73 = true := by kernel_rfl
@[simp] theorem flds_73 : flds Try.prog 73 = [] := by kernel_rfl
@[simp] theorem zeros_73 : zeros Try.prog 73 = some [Value.slice none 0 0] := by kernel_rfl
@[simp] theorem isinfo_73 : (Try.prog.info? 73).isSome = true := by kernel_rfl
@[simp] theorem isund_73 : (Try.prog.underlying 73).isSome = true := by kernel_rfl
@[simp] theorem cellsOf_74 : Try.prog.cellsOf 74 = 1 := by kernel_rfl
@[simp] theorem bytesOf_74 : Try.prog.bytesOf 74 = 0 := by kernel_rfl
@[simp] theorem slel_74 : slel Try.prog 74 = none := by kernel_rfl
@[simp] theorem isAggB_74 : isAggB Try.prog 74 = false := by kernel_rfl
@[simp] theorem tOk_74 : tOk Try.prog 74 = true := by kernel_rfl
@[simp] theorem arrOf_74 : arrOf Try.prog 74 = none := by kernel_rfl
@[simp] theorem strB_74 : strB Try.prog 74 = false := by kernel_rfl
@[simp] theorem bolB_74 : bolB Try.prog 74 = false := by kernel_rfl
@[simp] theorem mapB_74 : mapB Try.prog 74 = false := by kernel_rfl
@[simp] theorem intK_74 : intK Try.prog 74 = none := by kernel_rfl
@[simp] theorem zrow_74 : zrow Try.prog 74 = none := by kernel_rfl
@[simp] theorem bldOk_74 : bldOk Try.prog 74 = false := by kernel_rfl
@[simp] theorem tcs_74 : tcs Try.prog 74 = [74] := by kernel_rfl
@[simp] theorem srcT_74 : srcT Try.prog 74 = false := by kernel_rfl
@[simp] theorem zok_74 : zok Try.prog 74 = true := by kernel_rfl
@[simp] theorem flds_74 : flds Try.prog 74 = [] := by kernel_rfl
@[simp] theorem zeros_74 : zeros Try.prog 74 = some [Value.tuple { toList := [Value.agg { toList := [Value.int IntKind.i64 0, Value.int IntKind.u32 0, Value.int IntKind.u32 0, Value.int IntKind.u32 0, Value.int IntKind.u32 0, Value.int IntKind.u32 0, Value.int IntKind.u32 0, Value.int IntKind.u32 0, Value.int IntKind.u32 0, Value.int IntKind.u32 0, Value.int IntKind.u32 0, Value.int IntKind.u32 0, Value.int IntKind.u32 0, Value.int IntKind.u32 0, Value.int IntKind.u32 0, Value.int IntKind.u32 0, Value.int IntKind.u32 0, Value.slice none 0 0, Value.int IntKind.i64 0, Value.string { data := { toList := [] } }, Value.int IntKind.i64 0, Value.int IntKind.i64 0] }, Value.slice none 0 0] }] := by kernel_rfl
@[simp] theorem isinfo_74 : (Try.prog.info? 74).isSome = true := by kernel_rfl
@[simp] theorem isund_74 : (Try.prog.underlying 74).isSome = true := by kernel_rfl
@[simp] theorem cellsOf_75 : Try.prog.cellsOf 75 = 1 := by kernel_rfl
@[simp] theorem bytesOf_75 : Try.prog.bytesOf 75 = 8 := by kernel_rfl
@[simp] theorem slel_75 : slel Try.prog 75 = none := by kernel_rfl
@[simp] theorem isAggB_75 : isAggB Try.prog 75 = false := by kernel_rfl
@[simp] theorem tOk_75 : tOk Try.prog 75 = true := by kernel_rfl
@[simp] theorem arrOf_75 : arrOf Try.prog 75 = none := by kernel_rfl
@[simp] theorem strB_75 : strB Try.prog 75 = false := by kernel_rfl
@[simp] theorem bolB_75 : bolB Try.prog 75 = false := by kernel_rfl
@[simp] theorem mapB_75 : mapB Try.prog 75 = false := by kernel_rfl
@[simp] theorem intK_75 : intK Try.prog 75 = none := by kernel_rfl
@[simp] theorem zrow_75 : zrow Try.prog 75 = some [AV.sc Value.nilFunc] := by kernel_rfl
@[simp] theorem bldOk_75 : bldOk Try.prog 75 = false := by kernel_rfl
@[simp] theorem tcs_75 : tcs Try.prog 75 = [75] := by kernel_rfl
@[simp] theorem srcT_75 : srcT Try.prog 75 = false := by kernel_rfl
@[simp] theorem zok_75 : zok Try.prog 75 = true := by kernel_rfl
@[simp] theorem flds_75 : flds Try.prog 75 = [] := by kernel_rfl
@[simp] theorem zeros_75 : zeros Try.prog 75 = some [Value.nilFunc] := by kernel_rfl
@[simp] theorem isinfo_75 : (Try.prog.info? 75).isSome = true := by kernel_rfl
@[simp] theorem isund_75 : (Try.prog.underlying 75).isSome = true := by kernel_rfl
@[simp] theorem cellsOf_76 : Try.prog.cellsOf 76 = 1 := by kernel_rfl
@[simp] theorem bytesOf_76 : Try.prog.bytesOf 76 = 8 := by kernel_rfl
@[simp] theorem slel_76 : slel Try.prog 76 = none := by kernel_rfl
@[simp] theorem isAggB_76 : isAggB Try.prog 76 = false := by kernel_rfl
@[simp] theorem tOk_76 : tOk Try.prog 76 = true := by kernel_rfl
@[simp] theorem arrOf_76 : arrOf Try.prog 76 = none := by kernel_rfl
@[simp] theorem strB_76 : strB Try.prog 76 = false := by kernel_rfl
@[simp] theorem bolB_76 : bolB Try.prog 76 = false := by kernel_rfl
@[simp] theorem mapB_76 : mapB Try.prog 76 = false := by kernel_rfl
@[simp] theorem intK_76 : intK Try.prog 76 = none := by kernel_rfl
@[simp] theorem zrow_76 : zrow Try.prog 76 = some [AV.sc Value.nilFunc] := by kernel_rfl
@[simp] theorem bldOk_76 : bldOk Try.prog 76 = false := by kernel_rfl
@[simp] theorem tcs_76 : tcs Try.prog 76 = [76] := by kernel_rfl
@[simp] theorem srcT_76 : srcT Try.prog 76 = false := by kernel_rfl
@[simp] theorem zok_76 : zok Try.prog 76 = true := by kernel_rfl
@[simp] theorem flds_76 : flds Try.prog 76 = [] := by kernel_rfl
@[simp] theorem zeros_76 : zeros Try.prog 76 = some [Value.nilFunc] := by kernel_rfl
@[simp] theorem isinfo_76 : (Try.prog.info? 76).isSome = true := by kernel_rfl
@[simp] theorem isund_76 : (Try.prog.underlying 76).isSome = true := by kernel_rfl
@[simp] theorem cellsOf_77 : Try.prog.cellsOf 77 = 1 := by kernel_rfl
@[simp] theorem bytesOf_77 : Try.prog.bytesOf 77 = 8 := by kernel_rfl
@[simp] theorem slel_77 : slel Try.prog 77 = none := by kernel_rfl
@[simp] theorem isAggB_77 : isAggB Try.prog 77 = false := by kernel_rfl
@[simp] theorem tOk_77 : tOk Try.prog 77 = true := by kernel_rfl
@[simp] theorem arrOf_77 : arrOf Try.prog 77 = none := by kernel_rfl
@[simp] theorem strB_77 : strB Try.prog 77 = false := by kernel_rfl
@[simp] theorem bolB_77 : bolB Try.prog 77 = false := by kernel_rfl
@[simp] theorem mapB_77 : mapB Try.prog 77 = false := by kernel_rfl
@[simp] theorem intK_77 : intK Try.prog 77 = none := by kernel_rfl
@[simp] theorem zrow_77 : zrow Try.prog 77 = some [AV.sc Value.nilFunc] := by kernel_rfl
@[simp] theorem bldOk_77 : bldOk Try.prog 77 = false := by kernel_rfl
@[simp] theorem tcs_77 : tcs Try.prog 77 = [77] := by kernel_rfl
@[simp] theorem srcT_77 : srcT Try.prog 77 = false := by kernel_rfl
@[simp] theorem zok_77 : zok Try.prog 77 = true := by kernel_rfl
@[simp] theorem flds_77 : flds Try.prog 77 = [] := by kernel_rfl
@[simp] theorem zeros_77 : zeros Try.prog 77 = some [Value.nilFunc] := by kernel_rfl
@[simp] theorem isinfo_77 : (Try.prog.info? 77).isSome = true := by kernel_rfl
@[simp] theorem isund_77 : (Try.prog.underlying 77).isSome = true := by kernel_rfl
@[simp] theorem cellsOf_78 : Try.prog.cellsOf 78 = 1 := by kernel_rfl
@[simp] theorem bytesOf_78 : Try.prog.bytesOf 78 = 8 := by kernel_rfl
@[simp] theorem slel_78 : slel Try.prog 78 = none := by kernel_rfl
@[simp] theorem isAggB_78 : isAggB Try.prog 78 = false := by kernel_rfl
@[simp] theorem tOk_78 : tOk Try.prog 78 = true := by kernel_rfl
@[simp] theorem arrOf_78 : arrOf Try.prog 78 = none := by kernel_rfl
@[simp] theorem strB_78 : strB Try.prog 78 = false := by kernel_rfl
@[simp] theorem bolB_78 : bolB Try.prog 78 = false := by kernel_rfl
@[simp] theorem mapB_78 : mapB Try.prog 78 = false := by kernel_rfl
@[simp] theorem intK_78 : intK Try.prog 78 = none := by kernel_rfl
@[simp] theorem zrow_78 : zrow Try.prog 78 = some [AV.sc Value.nilFunc] := by kernel_rfl
@[simp] theorem bldOk_78 : bldOk Try.prog 78 = false := by kernel_rfl
@[simp] theorem tcs_78 : tcs Try.prog 78 = [78] := by kernel_rfl
@[simp] theorem srcT_78 : srcT Try.prog 78 = false := by kernel_rfl
@[simp] theorem zok_78 : zok Try.prog 78 = true := by kernel_rfl
@[simp] theorem flds_78 : flds Try.prog 78 = [] := by kernel_rfl
@[simp] theorem zeros_78 : zeros Try.prog 78 = some [Value.nilFunc] := by kernel_rfl
@[simp] theorem isinfo_78 : (Try.prog.info? 78).isSome = true := by kernel_rfl
@[simp] theorem isund_78 : (Try.prog.underlying 78).isSome = true := by kernel_rfl
@[simp] theorem cellsOf_79 : Try.prog.cellsOf 79 = 1 := by kernel_rfl
@[simp] theorem bytesOf_79 : Try.prog.bytesOf 79 = 24 := by kernel_rfl
@[simp] theorem slel_79 : slel Try.prog 79 = some 4 := by kernel_rfl
@[simp] theorem isAggB_79 : isAggB Try.prog 79 = false := by kernel_rfl
@[simp] theorem tOk_79 : tOk Try.prog 79 = true := by kernel_rfl
@[simp] theorem arrOf_79 : arrOf Try.prog 79 = none := by kernel_rfl
@[simp] theorem strB_79 : strB Try.prog 79 = false := by kernel_rfl
@[simp] theorem bolB_79 : bolB Try.prog 79 = false := by kernel_rfl
@[simp] theorem mapB_79 : mapB Try.prog 79 = false := by kernel_rfl
@[simp] theorem intK_79 : intK Try.prog 79 = none := by kernel_rfl
@[simp] theorem zrow_79 : zrow Try.prog 79 = some [AV.sl false 1 []] := by kernel_rfl
@[simp] theorem bldOk_79 : bldOk Try.prog 79 = false := by kernel_rfl
@[simp] theorem tcs_79 : tcs Try.prog 79 = [79] := by kernel_rfl
@[simp] theorem srcT_79 : srcT Try.prog 79 = true := by kernel_rfl
@[simp] theorem zok_79 : zok Try.prog 79 = true := by kernel_rfl
@[simp] theorem flds_79 : flds Try.prog 79 = [] := by kernel_rfl
@[simp] theorem zeros_79 : zeros Try.prog 79 = some [Value.slice none 0 0] := by kernel_rfl
@[simp] theorem isinfo_79 : (Try.prog.info? 79).isSome = true := by kernel_rfl
@[simp] theorem isund_79 : (Try.prog.underlying 79).isSome = true := by kernel_rfl
@[simp] theorem cellsOf_80 : Try.prog.cellsOf 80 = 1 := by kernel_rfl
@[simp] theorem bytesOf_80 : Try.prog.bytesOf 80 = 0 := by kernel_rfl
@[simp] theorem slel_80 : slel Try.prog 80 = none := by kernel_rfl
@[simp] theorem isAggB_80 : isAggB Try.prog 80 = false := by kernel_rfl
@[simp] theorem tOk_80 : tOk Try.prog 80 = true := by kernel_rfl
@[simp] theorem arrOf_80 : arrOf Try.prog 80 = none := by kernel_rfl
@[simp] theorem strB_80 : strB Try.prog 80 = false := by kernel_rfl
@[simp] theorem bolB_80 : bolB Try.prog 80 = false := by kernel_rfl
@[simp] theorem mapB_80 : mapB Try.prog 80 = false := by kernel_rfl
@[simp] theorem intK_80 : intK Try.prog 80 = none := by kernel_rfl
@[simp] theorem zrow_80 : zrow Try.prog 80 = none := by kernel_rfl
@[simp] theorem bldOk_80 : bldOk Try.prog 80 = false := by kernel_rfl
@[simp] theorem tcs_80 : tcs Try.prog 80 = [80] := by kernel_rfl
@[simp] theorem srcT_80 : srcT Try.prog 80 = false := by kernel_rfl
@[simp] theorem zok_80 : zok Try.prog 80 = true := by kernel_rfl
@[simp] theorem flds_80 : flds Try.prog 80 = [] := by kernel_rfl
@[simp] theorem zeros_80 : zeros Try.prog 80 = some [Value.tuple { toList := [Value.slice none 0 0, Value.slice none 0 0] }] := by kernel_rfl
@[simp] theorem isinfo_80 : (Try.prog.info? 80).isSome = true := by kernel_rfl
@[simp] theorem isund_80 : (Try.prog.underlying 80).isSome = true := by kernel_rfl
@[simp] theorem cellsOf_81 : Try.prog.cellsOf 81 = 1 := by kernel_rfl
@[simp] theorem bytesOf_81 : Try.prog.bytesOf 81 = 8 := by kernel_rfl
@[simp] theorem slel_81 : slel Try.prog 81 = none := by kernel_rfl
@[simp] theorem isAggB_81 : isAggB Try.prog 81 = false := by kernel_rfl
@[simp] theorem tOk_81 : tOk Try.prog 81 = true := by kernel_rfl
@[simp] theorem arrOf_81 : arrOf Try.prog 81 = none := by kernel_rfl
@[simp] theorem strB_81 : strB Try.prog 81 = false := by kernel_rfl
@[simp] theorem bolB_81 : bolB Try.prog 81 = false := by kernel_rfl
@[simp] theorem mapB_81 : mapB Try.prog 81 = false := by kernel_rfl
@[simp] theorem intK_81 : intK Try.prog 81 = none := by kernel_rfl
@[simp] theorem zrow_81 : zrow Try.prog 81 = some [AV.sc Value.nilFunc] := by kernel_rfl
@[simp] theorem bldOk_81 : bldOk Try.prog 81 = false := by kernel_rfl
@[simp] theorem tcs_81 : tcs Try.prog 81 = [81] := by kernel_rfl
@[simp] theorem srcT_81 : srcT Try.prog 81 = false := by kernel_rfl
@[simp] theorem zok_81 : zok Try.prog 81 = true := by kernel_rfl
@[simp] theorem flds_81 : flds Try.prog 81 = [] := by kernel_rfl
@[simp] theorem zeros_81 : zeros Try.prog 81 = some [Value.nilFunc] := by kernel_rfl
@[simp] theorem isinfo_81 : (Try.prog.info? 81).isSome = true := by kernel_rfl
@[simp] theorem isund_81 : (Try.prog.underlying 81).isSome = true := by kernel_rfl
@[simp] theorem cellsOf_82 : Try.prog.cellsOf 82 = 28 := by kernel_rfl
@[simp] theorem bytesOf_82 : Try.prog.bytesOf 82 = 272 := by kernel_rfl
@[simp] theorem slel_82 : slel Try.prog 82 = none := by kernel_rfl
@[simp] theorem isAggB_82 : isAggB Try.prog 82 = true := by kernel_rfl
@[simp] theorem tOk_82 : tOk Try.prog 82 = true := by kernel_rfl
@[simp] theorem arrOf_82 : arrOf Try.prog 82 = none := by kernel_rfl
@[simp] theorem strB_82 : strB Try.prog 82 = false := by kernel_rfl
@[simp] theorem bolB_82 : bolB Try.prog 82 = false := by kernel_rfl
@[simp] theorem mapB_82 : mapB Try.prog 82 = false := by kernel_rfl
@[simp] theorem intK_82 : intK Try.prog 82 = none := by kernel_rfl
@[simp] theorem zrow_82 : zrow Try.prog 82 = some [AV.sc (Value.int IntKind.i64 0), AV.sc (Value.int IntKind.u32 0), AV.sc (Value.int IntKind.u32 0), AV.sc (Value.int IntKind.u32 0), AV.sc (Value.int IntKind.u32 0), AV.sc (Value.int IntKind.u32 0), AV.sc (Value.int IntKind.u32 0), AV.sc (Value.int IntKind.u32 0), AV.sc (Value.int IntKind.u32 0), AV.sc (Value.int IntKind.u32 0), AV.sc (Value.int IntKind.u32 0), AV.sc (Value.int IntKind.u32 0), AV.sc (Value.int IntKind.u32 0), AV.sc (Value.int IntKind.u32 0), AV.sc (Value.int IntKind.u32 0), AV.sc (Value.int IntKind.u32 0), AV.sc (Value.int IntKind.u32 0), AV.sl false 1 [], AV.sc (Value.int IntKind.i64 0), AV.sc (Value.string { data := { toList := [] } }), AV.sc (Value.int IntKind.i64 0), AV.sc (Value.int IntKind.i64 0), AV.sl false 1 [], AV.sl false 4 [], AV.sl false 1 [], AV.sl false 1 [], AV.sc (Value.string { data := { toList := [] } }), AV.sl false 1 []] := by kernel_rfl
@[simp] theorem bldOk_82 : bldOk Try.prog 82 = true := by kernel_rfl
@[simp] theorem tcs_82 : tcs Try.prog 82 = [3, 36, 36, 36, 36, 36, 36, 36, 36, 36, 36, 36, 36, 36, 36, 36, 36, 22, 3, 9, 3, 3, 71, 68, 79, 22, 9, 73] := by kernel_rfl
@[simp] theorem srcT_82 : srcT Try.prog 82 = false := by kernel_rfl
@[simp] theorem zok_82 : zok Try.prog 82 = true := by kernel_rfl
@[simp] theorem flds_82 : flds Try.prog 82 = [(0, 22, 60), (22, 1, 71), (23, 1, 68), (24, 1, 79), (25, 1, 22), (26, 1, 9), (27, 1, 73)] := by kernel_rfl
@[simp] theorem zeros_82 : zeros Try.prog 82 = some [Value.int IntKind.i64 0, Value.int IntKind.u32 0, Value.int IntKind.u32 0, Value.int IntKind.u32 0, Value.int IntKind.u32 0, Value.int IntKind.u32 0, Value.int IntKind.u32 0, Value.int IntKind.u32 0, Value.int IntKind.u32 0, Value.int IntKind.u32 0, Value.int IntKind.u32 0, Value.int IntKind.u32 0, Value.int IntKind.u32 0, Value.int IntKind.u32 0, Value.int IntKind.u32 0, Value.int IntKind.u32 0, Value.int IntKind.u32 0, Value.slice none 0 0, Value.int IntKind.i64 0, Value.string { data := { toList := [] } }, Value.int IntKind.i64 0, Value.int IntKind.i64 0, Value.slice none 0 0, Value.slice none 0 0, Value.slice none 0 0, Value.slice none 0 0, Value.string { data := { toList := [] } }, Value.slice none 0 0] := by kernel_rfl
@[simp] theorem isinfo_82 : (Try.prog.info? 82).isSome = true := by kernel_rfl
@[simp] theorem isund_82 : (Try.prog.underlying 82).isSome = true := by kernel_rfl
@[simp] theorem cellsOf_83 : Try.prog.cellsOf 83 = 28 := by kernel_rfl
@[simp] theorem bytesOf_83 : Try.prog.bytesOf 83 = 272 := by kernel_rfl
@[simp] theorem slel_83 : slel Try.prog 83 = none := by kernel_rfl
@[simp] theorem isAggB_83 : isAggB Try.prog 83 = true := by kernel_rfl
@[simp] theorem tOk_83 : tOk Try.prog 83 = true := by kernel_rfl
@[simp] theorem arrOf_83 : arrOf Try.prog 83 = none := by kernel_rfl
@[simp] theorem strB_83 : strB Try.prog 83 = false := by kernel_rfl
@[simp] theorem bolB_83 : bolB Try.prog 83 = false := by kernel_rfl
@[simp] theorem mapB_83 : mapB Try.prog 83 = false := by kernel_rfl
@[simp] theorem intK_83 : intK Try.prog 83 = none := by kernel_rfl
@[simp] theorem zrow_83 : zrow Try.prog 83 = some [AV.sc (Value.int IntKind.i64 0), AV.sc (Value.int IntKind.u32 0), AV.sc (Value.int IntKind.u32 0), AV.sc (Value.int IntKind.u32 0), AV.sc (Value.int IntKind.u32 0), AV.sc (Value.int IntKind.u32 0), AV.sc (Value.int IntKind.u32 0), AV.sc (Value.int IntKind.u32 0), AV.sc (Value.int IntKind.u32 0), AV.sc (Value.int IntKind.u32 0), AV.sc (Value.int IntKind.u32 0), AV.sc (Value.int IntKind.u32 0), AV.sc (Value.int IntKind.u32 0), AV.sc (Value.int IntKind.u32 0), AV.sc (Value.int IntKind.u32 0), AV.sc (Value.int IntKind.u32 0), AV.sc (Value.int IntKind.u32 0), AV.sl false 1 [], AV.sc (Value.int IntKind.i64 0), AV.sc (Value.string { data := { toList := [] } }), AV.sc (Value.int IntKind.i64 0), AV.sc (Value.int IntKind.i64 0), AV.sl false 1 [], AV.sl false 4 [], AV.sl false 1 [], AV.sl false 1 [], AV.sc (Value.string { data := { toList := [] } }), AV.sl false 1 []] := by kernel_rfl
@[simp] theorem bldOk_83 : bldOk Try.prog 83 = true := by kernel_rfl
@[simp] theorem tcs_83 : tcs Try.prog 83 = [3, 36, 36, 36, 36, 36, 36, 36, 36, 36, 36, 36, 36, 36, 36, 36, 36, 22, 3, 9, 3, 3, 71, 68, 79, 22, 9, 73] := by kernel_rfl
@[simp] theorem srcT_83 : srcT Try.prog 83 = false := by kernel_rfl
@[simp] theorem zok_83 : zok Try.prog 83 = true := by kernel_rfl
@[simp] theorem flds_83 : flds Try.prog 83 = [(0, 22, 60), (22, 1, 71), (23, 1, 68), (24, 1, 79), (25, 1, 22), (26, 1, 9), (27, 1, 73)] := by kernel_rfl
@[simp] theorem zeros_83 : zeros Try.prog 83 = some [Value.int IntKind.i64 0, Value.int IntKind.u32 0, Value.int IntKind.u32 0, Value.int IntKind.u32 0, Value.int IntKind.u32 0, Value.int IntKind.u32 0, Value.int IntKind.u32 0, Value.int IntKind.u32 0, Value.int IntKind.u32 0, Value.int IntKind.u32 0, Value.int IntKind.u32 0, Value.int IntKind.u32 0, Value.int IntKind.u32 0, Value.int IntKind.u32 0, Value.int IntKind.u32 0, Value.int IntKind.u32 0, Value.int IntKind.u32 0, Value.slice none 0 0, Value.int IntKind.i64 0, Value.string { data := { toList := [] } }, Value.int IntKind.i64 0, Value.int IntKind.i64 0, Value.slice none 0 0, Value.slice none 0 0, Value.slice none 0 0, Value.slice none 0 0, Value.string { data := { toList := [] } }, Value.slice none 0 0] := by kernel_rfl
@[simp] theorem isinfo_83 : (Try.prog.info? 83).isSome = true := by kernel_rfl
@[simp] theorem isund_83 : (Try.prog.underlying 83).isSome = true := by kernel_rfl
@[simp] theorem cellsOf_84 : Try.prog.cellsOf 84 = 1 := by kernel_rfl
@[simp] theorem bytesOf_84 : Try.prog.bytesOf 84 = 8 := by kernel_rfl
@[simp] theorem slel_84 : slel Try.prog 84 = none := by kernel_rfl
@[simp] theorem isAggB_84 : isAggB Try.prog 84 = false := by kernel_rfl
@[simp] theorem tOk_84 : tOk Try.prog 84 = true := by kernel_rfl
@[simp] theorem arrOf_84 : arrOf Try.prog 84 = none := by kernel_rfl
@[simp] theorem strB_84 : strB Try.prog 84 = false := by kernel_rfl
@[simp] theorem bolB_84 : bolB Try.prog 84 = false := by kernel_rfl
@[simp] theorem mapB_84 : mapB Try.prog 84 = false := by kernel_rfl
@[simp] theorem intK_84 : intK Try.prog 84 = none := by kernel_rfl
@[simp] theorem zrow_84 : zrow Try.prog 84 = some [AV.sc Value.nilFunc] := by kernel_rfl
@[simp] theorem bldOk_84 : bldOk Try.prog 84 = false := by kernel_rfl
@[simp] theorem tcs_84 : tcs Try.prog 84 = [84] := by kernel_rfl
@[simp] theorem srcT_84 : srcT Try.prog 84 = false := by kernel_rfl
@[simp] theorem zok_84 : zok Try.prog 84 = true := by kernel_rfl
@[simp] theorem flds_84 : flds Try.prog 84 = [] := by kernel_rfl
@[simp] theorem zeros_84 : zeros Try.prog 84 = some [Value.nilFunc] := by kernel_rfl
@[simp] theorem isinfo_84 : (Try.prog.info? 84).isSome = true := by kernel_rfl
@[simp] theorem isund_84 : (Try.prog.underlying 84).isSome = true := by kernel_rfl
@[simp] theorem cellsOf_85 : Try.prog.cellsOf 85 = 4 := by kernel_rfl
@[simp] theorem bytesOf_85 : Try.prog.bytesOf 85 = 32 := by kernel_rfl
@[simp] theorem slel_85 : slel Try.prog 85 = none := by kernel_rfl
@[simp] theorem isAggB_85 : isAggB Try.prog 85 = true := by kernel_rfl
@[simp] theorem tOk_85 : tOk Try.prog 85 = true := by kernel_rfl
@[simp] theorem arrOf_85 : arrOf Try.prog 85 = none := by kernel_rfl
@[simp] theorem strB_85 : strB Try.prog 85 = false := by kernel_rfl
@[simp] theorem bolB_85 : bolB Try.prog 85 = false := by kernel_rfl
@[simp] theorem mapB_85 : mapB Try.prog 85 = false := by kernel_rfl
@[simp] theorem intK_85 : intK Try.prog 85 = none := by kernel_rfl
@[simp] theorem zrow_85 : zrow Try.prog 85 = some [AV.sc (Value.string { data := { toList := [] } }), AV.sc (Value.bool false), AV.sc (Value.bool false), AV.sc (Value.int IntKind.i64 0)] := by kernel_rfl
@[simp] theorem bldOk_85 : bldOk Try.prog 85 = true := by kernel_rfl
@[simp] theorem tcs_85 : tcs Try.prog 85 = [9, 4, 4, 3] := by kernel_rfl
@[simp] theorem srcT_85 : srcT Try.prog 85 = false := by kernel_rfl
@[simp] theorem zok_85 : zok Try.prog 85 = true := by kernel_rfl
@[simp] theorem flds_85 : flds Try.prog 85 = [(0, 1, 9), (1, 1, 4), (2, 1, 4), (3, 1, 3)] := by kernel_rfl
@[simp] theorem zeros_85 : zeros Try.prog 85 = some [Value.string { data := { toList := [] } }, Value.bool false, Value.bool false, Value.int IntKind.i64 0] := by kernel_rfl
@[simp] theorem isinfo_85 : (Try.prog.info? 85).isSome = true := by kernel_rfl
@[simp] theorem isund_85 : (Try.prog.underlying 85).isSome = true := by kernel_rfl
@[simp] theorem cellsOf_86 : Try.prog.cellsOf 86 = 4 := by kernel_rfl
@[simp] theorem bytesOf_86 : Try.prog.bytesOf 86 = 32 := by kernel_rfl
@[simp] theorem slel_86 : slel Try.prog 86 = none := by kernel_rfl
@[simp] theorem isAggB_86 : isAggB Try.prog 86 = true := by kernel_rfl
@[simp] theorem tOk_86 : tOk Try.prog 86 = true := by kernel_rfl
@[simp] theorem arrOf_86 : arrOf Try.prog 86 = none := by kernel_rfl
@[simp] theorem strB_86 : strB Try.prog 86 = false := by kernel_rfl
@[simp] theorem bolB_86 : bolB Try.prog 86 = false := by kernel_rfl
@[simp] theorem mapB_86 : mapB Try.prog 86 = false := by kernel_rfl
@[simp] theorem intK_86 : intK Try.prog 86 = none := by kernel_rfl
@[simp] theorem zrow_86 : zrow Try.prog 86 = some [AV.sc (Value.string { data := { toList := [] } }), AV.sc (Value.bool false), AV.sc (Value.bool false), AV.sc (Value.int IntKind.i64 0)] := by kernel_rfl
@[simp] theorem bldOk_86 : bldOk Try.prog 86 = true := by kernel_rfl
@[simp] theorem tcs_86 : tcs Try.prog 86 = [9, 4, 4, 3] := by kernel_rfl
@[simp] theorem srcT_86 : srcT Try.prog 86 = false := by kernel_rfl
@[simp] theorem zok_86 : zok Try.prog 86 = true := by kernel_rfl
@[simp] theorem flds_86 : flds Try.prog 86 = [(0, 1, 9), (1, 1, 4), (2, 1, 4), (3, 1, 3)] := by kernel_rfl
@[simp] theorem zeros_86 : zeros Try.prog 86 = some [Value.string { data := { toList := [] } }, Value.bool false, Value.bool false, Value.int IntKind.i64 0] := by kernel_rfl
@[simp] theorem isinfo_86 : (Try.prog.info? 86).isSome = true := by kernel_rfl
@[simp] theorem isund_86 : (Try.prog.underlying 86).isSome = true := by kernel_rfl
@[simp] theorem cellsOf_87 : Try.prog.cellsOf 87 = 1 := by kernel_rfl
@[simp] theorem bytesOf_87 : Try.prog.bytesOf 87 = 8 := by kernel_rfl
@[simp] theorem slel_87 : slel Try.prog 87 = none := by kernel_rfl
@[simp] theorem isAggB_87 : isAggB Try.prog 87 = false := by kernel_rfl
@[simp] theorem tOk_87 : tOk Try.prog 87 = true := by kernel_rfl
@[simp] theorem arrOf_87 : arrOf Try.prog 87 = none := by kernel_rfl
@[simp] theorem strB_87 : strB Try.prog 87 = false := by kernel_rfl
@[simp] theorem bolB_87 : bolB Try.prog 87 = false := by kernel_rfl
@[simp] theorem mapB_87 : mapB Try.prog 87 = false := by kernel_rfl
@[simp] theorem intK_87 : intK Try.prog 87 = none := by kernel_rfl
@[simp] theorem zrow_87 : zrow Try.prog 87 = some [AV.sc Value.nilFunc] := by kernel_rfl
@[simp] theorem bldOk_87 : bldOk Try.prog 87 = false := by kernel_rfl
@[simp] theorem tcs_87 : tcs Try.prog 87 = [87] := by kernel_rfl
@[simp] theorem srcT_87 : srcT Try.prog 87 = false := by kernel_rfl
@[simp] theorem zok_87 : zok Try.prog 87 = true := by kernel_rfl
@[simp] theorem flds_87 : flds Try.prog 87 = [] := by kernel_rfl
@[simp] theorem zeros_87 : zeros Try.prog 87 = some [Value.nilFunc] := by kernel_rfl
@[simp] theorem isinfo_87 : (Try.prog.info? 87).isSome = true := by kernel_rfl
@[simp] theorem isund_87 : (Try.prog.underlying 87).isSome = true := by kernel_rfl
@[simp] theorem cellsOf_88 : Try.prog.cellsOf 88 = 1 := by kernel_rfl
@[simp] theorem bytesOf_88 : Try.prog.bytesOf 88 = 8 := by kernel_rfl
@[simp] theorem slel_88 : slel Try.prog 88 = none := by kernel_rfl
@[simp] theorem isAggB_88 : isAggB Try.prog 88 = false := by kernel_rfl
@[simp] theorem tOk_88 : tOk Try.prog 88 = true := by kernel_rfl
@[simp] theorem arrOf_88 : arrOf Try.prog 88 = none := by kernel_rfl
@[simp] theorem strB_88 : strB Try.prog 88 = false := by kernel_rfl
@[simp] theorem bolB_88 : bolB Try.prog 88 = false := by kernel_rfl
@[simp] theorem mapB_88 : mapB Try.prog 88 = false := by kernel_rfl
@[simp] theorem intK_88 : intK Try.prog 88 = none := by kernel_rfl
@[simp] theorem zrow_88 : zrow Try.prog 88 = some [AV.sc Value.nilFunc] := by kernel_rfl
@[simp] theorem bldOk_88 : bldOk Try.prog 88 = false := by kernel_rfl
@[simp] theorem tcs_88 : tcs Try.prog 88 = [88] := by kernel_rfl
@[simp] theorem srcT_88 : srcT Try.prog 88 = false := by kernel_rfl
@[simp] theorem zok_88 : zok Try.prog 88 = true := by kernel_rfl
@[simp] theorem flds_88 : flds Try.prog 88 = [] := by kernel_rfl
@[simp] theorem zeros_88 : zeros Try.prog 88 = some [Value.nilFunc] := by kernel_rfl
@[simp] theorem isinfo_88 : (Try.prog.info? 88).isSome = true := by kernel_rfl
@[simp] theorem isund_88 : (Try.prog.underlying 88).isSome = true := by kernel_rfl
@[simp] theorem cellsOf_89 : Try.prog.cellsOf 89 = 1 := by kernel_rfl
@[simp] theorem bytesOf_89 : Try.prog.bytesOf 89 = 0 := by kernel_rfl
@[simp] theorem slel_89 : slel Try.prog 89 = none := by kernel_rfl
@[simp] theorem isAggB_89 : isAggB Try.prog 89 = false := by kernel_rfl
@[simp] theorem tOk_89 : tOk Try.prog 89 = true := by kernel_rfl
@[simp] theorem arrOf_89 : arrOf Try.prog 89 = none := by kernel_rfl
@[simp] theorem strB_89 : strB Try.prog 89 = false := by kernel_rfl
@[simp] theorem bolB_89 : bolB Try.prog 89 = false := by kernel_rfl
@[simp] theorem mapB_89 : mapB Try.prog 89 = false := by kernel_rfl
@[simp] theorem intK_89 : intK Try.prog 89 = none := by kernel_rfl
@[simp] theorem zrow_89 : zrow Try.prog 89 = none := by kernel_rfl
@[simp] theorem bldOk_89 : bldOk Try.prog 89 = false := by kernel_rfl
@[simp] theorem tcs_89 : tcs Try.prog 89 = [89] := by kernel_rfl
@[simp] theorem srcT_89 : srcT Try.prog 89 = false := by kernel_rfl
@[simp] theorem zok_89 : zok Try.prog 89 = true := by kernel_rfl
@[simp] theorem flds_89 : flds Try.prog 89 = [] := by kernel_rfl
@[simp] theorem zeros_89 : zeros Try.prog 89 = some [Value.tuple { toList := [Value.agg { toList := [Value.int IntKind.i64 0, Value.int IntKind.i64 0, Value.int IntKind.i64 0, Value.int IntKind.i64 0] }, Value.int IntKind.i64 0] }] := by kernel_rfl
@[simp] theorem isinfo_89 : (Try.prog.info? 89).isSome = true := by kernel_rfl
@[simp] theorem isund_89 : (Try.prog.underlying 89).isSome = true := by kernel_rfl
@[simp] theorem okFn_3 : okFn Try.prog 3 = true := by kernel_rfl
@[simp] theorem ptys_3 : ptys Try.prog 3 = [22, 9] := by kernel_rfl
@[simp] theorem rtys_3 : rtys Try.prog 3 = [4] := by kernel_rfl
@[simp] theorem flatF_3 : flatF Try.prog 3 = true := by kernel_rfl
@[simp] theorem bodyOk_3 : bodyOk Try.f3 = true := by kernel_rfl
@[simp] theorem okFn_4 : okFn Try.prog 4 = true := by kernel_rfl
@[simp] theorem ptys_4 : ptys Try.prog 4 = [22, 22, 5] := by kernel_rfl
@[simp] theorem rtys_4 : rtys Try.prog 4 = [4] := by kernel_rfl
@[simp] theorem flatF_4 : flatF Try.prog 4 = true := by kernel_rfl
@[simp] theorem bodyOk_4 : bodyOk Try.f4 = true := by kernel_rfl
@[simp] theorem okFn_5 : okFn Try.prog 5 = true := by kernel_rfl
@[simp] theorem ptys_5 : ptys Try.prog 5 = [9, 3, 36] := by kernel_rfl
@[simp] theorem rtys_5 : rtys Try.prog 5 = [4] := by kernel_rfl
@[simp] theorem flatF_5 : flatF Try.prog 5 = true := by kernel_rfl
@[simp] theorem bodyOk_5 : bodyOk Try.f5 = true := by kernel_rfl
@[simp] theorem okFn_6 : okFn Try.prog 6 = true := by kernel_rfl
@[simp] theorem ptys_6 : ptys Try.prog 6 = [41, 3] := by kernel_rfl
@[simp] theorem rtys_6 : rtys Try.prog 6 = [4] := by kernel_rfl
@[simp] theorem flatF_6 : flatF Try.prog 6 = true := by kernel_rfl
@[simp] theorem bodyOk_6 : bodyOk Try.f6 = true := by kernel_rfl
@[simp] theorem okFn_7 : okFn Try.prog 7 = true := by kernel_rfl
@[simp] theorem ptys_7 : ptys Try.prog 7 = [] := by kernel_rfl
@[simp] theorem rtys_7 : rtys Try.prog 7 = [4] := by kernel_rfl
@[simp] theorem flatF_7 : flatF Try.prog 7 = true := by kernel_rfl
@[simp] theorem bodyOk_7 : bodyOk Try.f7 = true := by kernel_rfl
@[simp] theorem okFn_8 : okFn Try.prog 8 = true := by kernel_rfl
@[simp] theorem ptys_8 : ptys Try.prog 8 = [22] := by kernel_rfl
@[simp] theorem rtys_8 : rtys Try.prog 8 = [9, 24] := by kernel_rfl
@[simp] theorem flatF_8 : flatF Try.prog 8 = true := by kernel_rfl
@[simp] theorem bodyOk_8 : bodyOk Try.f8 = true := by kernel_rfl
@[simp] theorem okFn_9 : okFn Try.prog 9 = true := by kernel_rfl
@[simp] theorem ptys_9 : ptys Try.prog 9 = [9] := by kernel_rfl
@[simp] theorem rtys_9 : rtys Try.prog 9 = [28, 24] := by kernel_rfl
@[simp] theorem flatF_9 : flatF Try.prog 9 = false := by kernel_rfl
@[simp] theorem bodyOk_9 : bodyOk Try.f9 = true := by kernel_rfl
@[simp] theorem okFn_10 : okFn Try.prog 10 = true := by kernel_rfl
@[simp] theorem ptys_10 : ptys Try.prog 10 = [22, 22] := by kernel_rfl
@[simp] theorem rtys_10 : rtys Try.prog 10 = [4] := by kernel_rfl
@[simp] theorem flatF_10 : flatF Try.prog 10 = true := by kernel_rfl
@[simp] theorem bodyOk_10 : bodyOk Try.f10 = true := by kernel_rfl
@[simp] theorem okFn_11 : okFn Try.prog 11 = true := by kernel_rfl
@[simp] theorem ptys_11 : ptys Try.prog 11 = [9, 9] := by kernel_rfl
@[simp] theorem rtys_11 : rtys Try.prog 11 = [4] := by kernel_rfl
@[simp] theorem flatF_11 : flatF Try.prog 11 = true := by kernel_rfl
@[simp] theorem bodyOk_11 : bodyOk Try.f11 = true := by kernel_rfl
@[simp] theorem okFn_12 : okFn Try.prog 12 = true := by kernel_rfl
@[simp] theorem ptys_12 : ptys Try.prog 12 = [28, 28] := by kernel_rfl
@[simp] theorem rtys_12 : rtys Try.prog 12 = [4] := by kernel_rfl
@[simp] theorem flatF_12 : flatF Try.prog 12 = true := by kernel_rfl
@[simp] theorem bodyOk_12 : bodyOk Try.f12 = true := by kernel_rfl
@[simp] theorem okFn_13 : okFn Try.prog 13 = true := by kernel_rfl
@[simp] theorem ptys_13 : ptys Try.prog 13 = [9, 3, 36] := by kernel_rfl
@[simp] theorem rtys_13 : rtys Try.prog 13 = [9, 24] := by kernel_rfl
@[simp] theorem flatF_13 : flatF Try.prog 13 = true := by kernel_rfl
@[simp] theorem bodyOk_13 : bodyOk Try.f13 = true := by kernel_rfl
@[simp] theorem okFn_14 : okFn Try.prog 14 = true := by kernel_rfl
@[simp] theorem ptys_14 : ptys Try.prog 14 = [9, 3, 36] := by kernel_rfl
@[simp] theorem rtys_14 : rtys Try.prog 14 = [9, 24] := by kernel_rfl
@[simp] theorem flatF_14 : flatF Try.prog 14 = true := by kernel_rfl
@[simp] theorem bodyOk_14 : bodyOk Try.f14 = true := by kernel_rfl
@[simp] theorem okFn_15 : okFn Try.prog 15 = true := by kernel_rfl
@[simp] theorem ptys_15 : ptys Try.prog 15 = [41, 3] := by kernel_rfl
@[simp] theorem rtys_15 : rtys Try.prog 15 = [41, 24] := by kernel_rfl
@[simp] theorem flatF_15 : flatF Try.prog 15 = false := by kernel_rfl
@[simp] theorem bodyOk_15 : bodyOk Try.f15 = true := by kernel_rfl
@[simp] theorem okFn_16 : okFn Try.prog 16 = true := by kernel_rfl
@[simp] theorem ptys_16 : ptys Try.prog 16 = [41, 3] := by kernel_rfl
@[simp] theorem rtys_16 : rtys Try.prog 16 = [41, 24] := by kernel_rfl
@[simp] theorem flatF_16 : flatF Try.prog 16 = false := by kernel_rfl
@[simp] theorem bodyOk_16 : bodyOk Try.f16 = true := by kernel_rfl
@[simp] theorem okFn_17 : okFn Try.prog 17 = true := by kernel_rfl
@[simp] theorem ptys_17 : ptys Try.prog 17 = [41, 41] := by kernel_rfl
@[simp] theorem rtys_17 : rtys Try.prog 17 = [4] := by kernel_rfl
@[simp] theorem flatF_17 : flatF Try.prog 17 = true := by kernel_rfl
@[simp] theorem bodyOk_17 : bodyOk Try.f17 = true := by kernel_rfl
@[simp] theorem okFn_18 : okFn Try.prog 18 = true := by kernel_rfl
@[simp] theorem ptys_18 : ptys Try.prog 18 = [3] := by kernel_rfl
@[simp] theorem rtys_18 : rtys Try.prog 18 = [22, 24] := by kernel_rfl
@[simp] theorem flatF_18 : flatF Try.prog 18 = false := by kernel_rfl
@[simp] theorem bodyOk_18 : bodyOk Try.f18 = true := by kernel_rfl
@[simp] theorem okFn_19 : okFn Try.prog 19 = true := by kernel_rfl
@[simp] theorem ptys_19 : ptys Try.prog 19 = [28] := by kernel_rfl
@[simp] theorem rtys_19 : rtys Try.prog 19 = [9, 24] := by kernel_rfl
@[simp] theorem flatF_19 : flatF Try.prog 19 = true := by kernel_rfl
@[simp] theorem bodyOk_19 : bodyOk Try.f19 = true := by kernel_rfl
@[simp] theorem okFn_20 : okFn Try.prog 20 = true := by kernel_rfl
@[simp] theorem ptys_20 : ptys Try.prog 20 = [9, 3] := by kernel_rfl
@[simp] theorem rtys_20 : rtys Try.prog 20 = [36] := by kernel_rfl
@[simp] theorem flatF_20 : flatF Try.prog 20 = true := by kernel_rfl
@[simp] theorem bodyOk_20 : bodyOk Try.f20 = true := by kernel_rfl
@[simp] theorem okFn_21 : okFn Try.prog 21 = true := by kernel_rfl
@[simp] theorem ptys_21 : ptys Try.prog 21 = [28, 9, 3] := by kernel_rfl
@[simp] theorem rtys_21 : rtys Try.prog 21 = [51] := by kernel_rfl
@[simp] theorem flatF_21 : flatF Try.prog 21 = true := by kernel_rfl
@[simp] theorem bodyOk_21 : bodyOk Try.f21 = true := by kernel_rfl
@[simp] theorem okFn_22 : okFn Try.prog 22 = true := by kernel_rfl
@[simp] theorem ptys_22 : ptys Try.prog 22 = [9] := by kernel_rfl
@[simp] theorem rtys_22 : rtys Try.prog 22 = [28, 24] := by kernel_rfl
@[simp] theorem flatF_22 : flatF Try.prog 22 = false := by kernel_rfl
@[simp] theorem bodyOk_22 : bodyOk Try.f22 = true := by kernel_rfl
@[simp] theorem okFn_23 : okFn Try.prog 23 = true := by kernel_rfl
@[simp] theorem ptys_23 : ptys Try.prog 23 = [28] := by kernel_rfl
@[simp] theorem rtys_23 : rtys Try.prog 23 = [9, 24] := by kernel_rfl
@[simp] theorem flatF_23 : flatF Try.prog 23 = true := by kernel_rfl
@[simp] theorem bodyOk_23 : bodyOk Try.f23 = true := by kernel_rfl
@[simp] theorem okFn_24 : okFn Try.prog 24 = true := by kernel_rfl
@[simp] theorem ptys_24 : ptys Try.prog 24 = [68] := by kernel_rfl
@[simp] theorem rtys_24 : rtys Try.prog 24 = [22, 24] := by kernel_rfl
@[simp] theorem flatF_24 : flatF Try.prog 24 = false := by kernel_rfl
@[simp] theorem bodyOk_24 : bodyOk Try.f24 = true := by kernel_rfl
@[simp] theorem okFn_25 : okFn Try.prog 25 = true := by kernel_rfl
@[simp] theorem ptys_25 : ptys Try.prog 25 = [28] := by kernel_rfl
@[simp] theorem rtys_25 : rtys Try.prog 25 = [4] := by kernel_rfl
@[simp] theorem flatF_25 : flatF Try.prog 25 = true := by kernel_rfl
@[simp] theorem bodyOk_25 : bodyOk Try.f25 = true := by kernel_rfl
@[simp] theorem okFn_26 : okFn Try.prog 26 = true := by kernel_rfl
@[simp] theorem ptys_26 : ptys Try.prog 26 = [22] := by kernel_rfl
@[simp] theorem rtys_26 : rtys Try.prog 26 = [9] := by kernel_rfl
@[simp] theorem flatF_26 : flatF Try.prog 26 = true := by kernel_rfl
@[simp] theorem bodyOk_26 : bodyOk Try.f26 = true := by kernel_rfl
@[simp] theorem okFn_27 : okFn Try.prog 27 = true := by kernel_rfl
@[simp] theorem ptys_27 : ptys Try.prog 27 = [28, 9, 60, 3] := by kernel_rfl
@[simp] theorem rtys_27 : rtys Try.prog 27 = [60] := by kernel_rfl
@[simp] theorem flatF_27 : flatF Try.prog 27 = false := by kernel_rfl
@[simp] theorem bodyOk_27 : bodyOk Try.f27 = true := by kernel_rfl
@[simp] theorem okFn_28 : okFn Try.prog 28 = true := by kernel_rfl
@[simp] theorem ptys_28 : ptys Try.prog 28 = [28] := by kernel_rfl
@[simp] theorem rtys_28 : rtys Try.prog 28 = [60] := by kernel_rfl
@[simp] theorem flatF_28 : flatF Try.prog 28 = false := by kernel_rfl
@[simp] theorem bodyOk_28 : bodyOk Try.f28 = true := by kernel_rfl
@[simp] theorem okFn_29 : okFn Try.prog 29 = true := by kernel_rfl
@[simp] theorem ptys_29 : ptys Try.prog 29 = [65] := by kernel_rfl
@[simp] theorem rtys_29 : rtys Try.prog 29 = [22] := by kernel_rfl
@[simp] theorem flatF_29 : flatF Try.prog 29 = false := by kernel_rfl
@[simp] theorem bodyOk_29 : bodyOk Try.f29 = true := by kernel_rfl
@[simp] theorem okFn_30 : okFn Try.prog 30 = true := by kernel_rfl
@[simp] theorem ptys_30 : ptys Try.prog 30 = [9] := by kernel_rfl
@[simp] theorem rtys_30 : rtys Try.prog 30 = [65] := by kernel_rfl
@[simp] theorem flatF_30 : flatF Try.prog 30 = false := by kernel_rfl
@[simp] theorem bodyOk_30 : bodyOk Try.f30 = true := by kernel_rfl
@[simp] theorem okFn_31 : okFn Try.prog 31 = true := by kernel_rfl
@[simp] theorem ptys_31 : ptys Try.prog 31 = [28] := by kernel_rfl
@[simp] theorem rtys_31 : rtys Try.prog 31 = [4] := by kernel_rfl
@[simp] theorem flatF_31 : flatF Try.prog 31 = true := by kernel_rfl
@[simp] theorem bodyOk_31 : bodyOk Try.f31 = true := by kernel_rfl
@[simp] theorem okFn_32 : okFn Try.prog 32 = true := by kernel_rfl
@[simp] theorem ptys_32 : ptys Try.prog 32 = [22] := by kernel_rfl
@[simp] theorem rtys_32 : rtys Try.prog 32 = [9] := by kernel_rfl
@[simp] theorem flatF_32 : flatF Try.prog 32 = true := by kernel_rfl
@[simp] theorem bodyOk_32 : bodyOk Try.f32 = true := by kernel_rfl
@[simp] theorem okFn_33 : okFn Try.prog 33 = true := by kernel_rfl
@[simp] theorem ptys_33 : ptys Try.prog 33 = [55] := by kernel_rfl
@[simp] theorem rtys_33 : rtys Try.prog 33 = [36, 24] := by kernel_rfl
@[simp] theorem flatF_33 : flatF Try.prog 33 = true := by kernel_rfl
@[simp] theorem bodyOk_33 : bodyOk Try.f33 = true := by kernel_rfl
@[simp] theorem okFn_34 : okFn Try.prog 34 = true := by kernel_rfl
@[simp] theorem ptys_34 : ptys Try.prog 34 = [28, 9, 60, 3] := by kernel_rfl
@[simp] theorem rtys_34 : rtys Try.prog 34 = [60, 73] := by kernel_rfl
@[simp] theorem flatF_34 : flatF Try.prog 34 = false := by kernel_rfl
@[simp] theorem bodyOk_34 : bodyOk Try.f34 = true := by kernel_rfl
@[simp] theorem okFn_35 : okFn Try.prog 35 = true := by kernel_rfl
@[simp] theorem ptys_35 : ptys Try.prog 35 = [22, 65] := by kernel_rfl
@[simp] theorem rtys_35 : rtys Try.prog 35 = [22] := by kernel_rfl
@[simp] theorem flatF_35 : flatF Try.prog 35 = false := by kernel_rfl
@[simp] theorem bodyOk_35 : bodyOk Try.f35 = true := by kernel_rfl
@[simp] theorem okFn_36 : okFn Try.prog 36 = true := by kernel_rfl
@[simp] theorem ptys_36 : ptys Try.prog 36 = [77] := by kernel_rfl
@[simp] theorem rtys_36 : rtys Try.prog 36 = [] := by kernel_rfl
@[simp] theorem flatF_36 : flatF Try.prog 36 = true := by kernel_rfl
@[simp] theorem bodyOk_36 : bodyOk Try.f36 = false := by kernel_rfl
@[simp] theorem okFn_37 : okFn Try.prog 37 = true := by kernel_rfl
@[simp] theorem ptys_37 : ptys Try.prog 37 = [55] := by kernel_rfl
@[simp] theorem rtys_37 : rtys Try.prog 37 = [4] := by kernel_rfl
@[simp] theorem flatF_37 : flatF Try.prog 37 = true := by kernel_rfl
@[simp] theorem bodyOk_37 : bodyOk Try.f37 = true := by kernel_rfl
@[simp] theorem okFn_38 : okFn Try.prog 38 = true := by kernel_rfl
@[simp] theorem ptys_38 : ptys Try.prog 38 = [28] := by kernel_rfl
@[simp] theorem rtys_38 : rtys Try.prog 38 = [68, 79] := by kernel_rfl
@[simp] theorem flatF_38 : flatF Try.prog 38 = false := by kernel_rfl
@[simp] theorem bodyOk_38 : bodyOk Try.f38 = true := by kernel_rfl
@[simp] theorem okFn_39 : okFn Try.prog 39 = true := by kernel_rfl
@[simp] theorem ptys_39 : ptys Try.prog 39 = [91] := by kernel_rfl
@[simp] theorem rtys_39 : rtys Try.prog 39 = [] := by kernel_rfl
@[simp] theorem flatF_39 : flatF Try.prog 39 = true := by kernel_rfl
@[simp] theorem bodyOk_39 : bodyOk Try.f39 = true := by kernel_rfl
@[simp] theorem okFn_40 : okFn Try.prog 40 = true := by kernel_rfl
@[simp] theorem ptys_40 : ptys Try.prog 40 = [3] := by kernel_rfl
@[simp] theorem rtys_40 : rtys Try.prog 40 = [4] := by kernel_rfl
@[simp] theorem flatF_40 : flatF Try.prog 40 = true := by kernel_rfl
@[simp] theorem bodyOk_40 : bodyOk Try.f40 = true := by kernel_rfl
@[simp] theorem okFn_41 : okFn Try.prog 41 = true := by kernel_rfl
@[simp] theorem ptys_41 : ptys Try.prog 41 = [3] := by kernel_rfl
@[simp] theorem rtys_41 : rtys Try.prog 41 = [86] := by kernel_rfl
@[simp] theorem flatF_41 : flatF Try.prog 41 = true := by kernel_rfl
@[simp] theorem bodyOk_41 : bodyOk Try.f41 = true := by kernel_rfl
@[simp] theorem okFn_42 : okFn Try.prog 42 = true := by kernel_rfl
@[simp] theorem ptys_42 : ptys Try.prog 42 = [3, 3, 4] := by kernel_rfl
@[simp] theorem rtys_42 : rtys Try.prog 42 = [4] := by kernel_rfl
@[simp] theorem flatF_42 : flatF Try.prog 42 = true := by kernel_rfl
@[simp] theorem bodyOk_42 : bodyOk Try.f42 = true := by kernel_rfl
@[simp] theorem okFn_43 : okFn Try.prog 43 = true := by kernel_rfl
@[simp] theorem ptys_43 : ptys Try.prog 43 = [36] := by kernel_rfl
@[simp] theorem rtys_43 : rtys Try.prog 43 = [55, 24] := by kernel_rfl
@[simp] theorem flatF_43 : flatF Try.prog 43 = true := by kernel_rfl
@[simp] theorem bodyOk_43 : bodyOk Try.f43 = true := by kernel_rfl
@[simp] theorem okFn_44 : okFn Try.prog 44 = true := by kernel_rfl
@[simp] theorem ptys_44 : ptys Try.prog 44 = [91, 3, 36] := by kernel_rfl
@[simp] theorem rtys_44 : rtys Try.prog 44 = [] := by kernel_rfl
@[simp] theorem flatF_44 : flatF Try.prog 44 = true := by kernel_rfl
@[simp] theorem bodyOk_44 : bodyOk Try.f44 = true := by kernel_rfl
@[simp] theorem okFn_45 : okFn Try.prog 45 = true := by kernel_rfl
@[simp] theorem ptys_45 : ptys Try.prog 45 = [22, 36, 3] := by kernel_rfl
@[simp] theorem rtys_45 : rtys Try.prog 45 = [36, 4] := by kernel_rfl
@[simp] theorem flatF_45 : flatF Try.prog 45 = true := by kernel_rfl
@[simp] theorem bodyOk_45 : bodyOk Try.f45 = true := by kernel_rfl
@[simp] theorem okFn_46 : okFn Try.prog 46 = true := by kernel_rfl
@[simp] theorem ptys_46 : ptys Try.prog 46 = [91, 4, 3] := by kernel_rfl
@[simp] theorem rtys_46 : rtys Try.prog 46 = [] := by kernel_rfl
@[simp] theorem flatF_46 : flatF Try.prog 46 = true := by kernel_rfl
@[simp] theorem bodyOk_46 : bodyOk Try.f46 = true := by kernel_rfl
@[simp] theorem okFn_47 : okFn Try.prog 47 = true := by kernel_rfl
@[simp] theorem ptys_47 : ptys Try.prog 47 = [3, 36, 36] := by kernel_rfl
@[simp] theorem rtys_47 : rtys Try.prog 47 = [36, 24] := by kernel_rfl
@[simp] theorem flatF_47 : flatF Try.prog 47 = true := by kernel_rfl
@[simp] theorem bodyOk_47 : bodyOk Try.f47 = true := by kernel_rfl
@[simp] theorem okFn_48 : okFn Try.prog 48 = true := by kernel_rfl
@[simp] theorem ptys_48 : ptys Try.prog 48 = [55] := by kernel_rfl
@[simp] theorem rtys_48 : rtys Try.prog 48 = [4] := by kernel_rfl
@[simp] theorem flatF_48 : flatF Try.prog 48 = true := by kernel_rfl
@[simp] theorem bodyOk_48 : bodyOk Try.f48 = true := by kernel_rfl
@[simp] theorem okFn_49 : okFn Try.prog 49 = true := by kernel_rfl
@[simp] theorem ptys_49 : ptys Try.prog 49 = [3, 36, 36] := by kernel_rfl
@[simp] theorem rtys_49 : rtys Try.prog 49 = [36] := by kernel_rfl
@[simp] theorem flatF_49 : flatF Try.prog 49 = true := by kernel_rfl
@[simp] theorem bodyOk_49 : bodyOk Try.f49 = true := by kernel_rfl
@[simp] theorem okFn_50 : okFn Try.prog 50 = true := by kernel_rfl
@[simp] theorem ptys_50 : ptys Try.prog 50 = [3, 36, 36] := by kernel_rfl
@[simp] theorem rtys_50 : rtys Try.prog 50 = [36] := by kernel_rfl
@[simp] theorem flatF_50 : flatF Try.prog 50 = true := by kernel_rfl
@[simp] theorem bodyOk_50 : bodyOk Try.f50 = true := by kernel_rfl
@[simp] theorem okFn_51 : okFn Try.prog 51 = true := by kernel_rfl
@[simp] theorem ptys_51 : ptys Try.prog 51 = [4] := by kernel_rfl
@[simp] theorem rtys_51 : rtys Try.prog 51 = [36] := by kernel_rfl
@[simp] theorem flatF_51 : flatF Try.prog 51 = true := by kernel_rfl
@[simp] theorem bodyOk_51 : bodyOk Try.f51 = true := by kernel_rfl
@[simp] theorem okFn_52 : okFn Try.prog 52 = true := by kernel_rfl
@[simp] theorem ptys_52 : ptys Try.prog 52 = [3] := by kernel_rfl
@[simp] theorem rtys_52 : rtys Try.prog 52 = [9] := by kernel_rfl
@[simp] theorem flatF_52 : flatF Try.prog 52 = true := by kernel_rfl
@[simp] theorem bodyOk_52 : bodyOk Try.f52 = true := by kernel_rfl
@[simp] theorem okFn_53 : okFn Try.prog 53 = true := by kernel_rfl
@[simp] theorem ptys_53 : ptys Try.prog 53 = [9, 5] := by kernel_rfl
@[simp] theorem rtys_53 : rtys Try.prog 53 = [4] := by kernel_rfl
@[simp] theorem flatF_53 : flatF Try.prog 53 = true := by kernel_rfl
@[simp] theorem bodyOk_53 : bodyOk Try.f53 = true := by kernel_rfl
@[simp] theorem okFn_54 : okFn Try.prog 54 = true := by kernel_rfl
@[simp] theorem ptys_54 : ptys Try.prog 54 = [4, 3, 3] := by kernel_rfl
@[simp] theorem rtys_54 : rtys Try.prog 54 = [4] := by kernel_rfl
@[simp] theorem flatF_54 : flatF Try.prog 54 = true := by kernel_rfl
@[simp] theorem bodyOk_54 : bodyOk Try.f54 = true := by kernel_rfl
@[simp] theorem okFn_55 : okFn Try.prog 55 = true := by kernel_rfl
@[simp] theorem ptys_55 : ptys Try.prog 55 = [36] := by kernel_rfl
@[simp] theorem rtys_55 : rtys Try.prog 55 = [73] := by kernel_rfl
@[simp] theorem flatF_55 : flatF Try.prog 55 = false := by kernel_rfl
@[simp] theorem bodyOk_55 : bodyOk Try.f55 = true := by kernel_rfl
@[simp] theorem okFn_56 : okFn Try.prog 56 = true := by kernel_rfl
@[simp] theorem ptys_56 : ptys Try.prog 56 = [73] := by kernel_rfl
@[simp] theorem rtys_56 : rtys Try.prog 56 = [36] := by kernel_rfl
@[simp] theorem flatF_56 : flatF Try.prog 56 = true := by kernel_rfl
@[simp] theorem bodyOk_56 : bodyOk Try.f56 = true := by kernel_rfl
end Go.Proofs.Ytdokejnokhicbaa
