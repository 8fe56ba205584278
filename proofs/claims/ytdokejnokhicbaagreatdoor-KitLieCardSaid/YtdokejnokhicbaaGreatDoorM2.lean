/- Law 47: facts of the program. -/
import Derived.KernelRfl
import Derived.Test.YtdokejnokhicbaaGreatDoorProg
import Derived.Test.YtdokejnokhicbaaGreatDoorK3
namespace Go.Proofs.YtdokejnokhicbaaGreatDoor
open Go Go.Ab
set_option linter.unusedSimpArgs false
set_option linter.unusedVariables false

@[simp] theorem cellsOf_0 : Tryz.prog.cellsOf 0 = 1 := by kernel_rfl
@[simp] theorem bytesOf_0 : Tryz.prog.bytesOf 0 = 0 := by kernel_rfl
@[simp] theorem slel_0 : slel Tryz.prog 0 = none := by kernel_rfl
@[simp] theorem isAggB_0 : isAggB Tryz.prog 0 = false := by kernel_rfl
@[simp] theorem tOk_0 : tOk Tryz.prog 0 = true := by kernel_rfl
@[simp] theorem arrOf_0 : arrOf Tryz.prog 0 = none := by kernel_rfl
@[simp] theorem strB_0 : strB Tryz.prog 0 = false := by kernel_rfl
@[simp] theorem bolB_0 : bolB Tryz.prog 0 = false := by kernel_rfl
@[simp] theorem mapB_0 : mapB Tryz.prog 0 = false := by kernel_rfl
@[simp] theorem intK_0 : intK Tryz.prog 0 = none := by kernel_rfl
@[simp] theorem zrow_0 : zrow Tryz.prog 0 = none := by kernel_rfl
@[simp] theorem bldOk_0 : bldOk Tryz.prog 0 = false := by kernel_rfl
@[simp] theorem tcs_0 : tcs Tryz.prog 0 = [0] := by kernel_rfl
@[simp] theorem srcT_0 : srcT Tryz.prog 0 = false := by kernel_rfl
@[simp] theorem zok_0 : zok Tryz.prog 0 = true := by kernel_rfl
@[simp] theorem flds_0 : flds Tryz.prog 0 = [] := by kernel_rfl
@[simp] theorem zeros_0 : zeros Tryz.prog 0 = some [Value.tuple { toList := [] }] := by kernel_rfl
@[simp] theorem isinfo_0 : (Tryz.prog.info? 0).isSome = true := by kernel_rfl
@[simp] theorem isund_0 : (Tryz.prog.underlying 0).isSome = true := by kernel_rfl
@[simp] theorem cellsOf_1 : Tryz.prog.cellsOf 1 = 1 := by kernel_rfl
@[simp] theorem bytesOf_1 : Tryz.prog.bytesOf 1 = 8 := by kernel_rfl
@[simp] theorem slel_1 : slel Tryz.prog 1 = none := by kernel_rfl
@[simp] theorem isAggB_1 : isAggB Tryz.prog 1 = false := by kernel_rfl
@[simp] theorem tOk_1 : tOk Tryz.prog 1 = true := by kernel_rfl
@[simp] theorem arrOf_1 : arrOf Tryz.prog 1 = none := by kernel_rfl
@[simp] theorem strB_1 : strB Tryz.prog 1 = false := by kernel_rfl
@[simp] theorem bolB_1 : bolB Tryz.prog 1 = false := by kernel_rfl
@[simp] theorem mapB_1 : mapB Tryz.prog 1 = false := by kernel_rfl
@[simp] theorem intK_1 : intK Tryz.prog 1 = none := by kernel_rfl
@[simp] theorem zrow_1 : zrow Tryz.prog 1 = some [AV.sc Value.nilFunc] := by kernel_rfl
@[simp] theorem bldOk_1 : bldOk Tryz.prog 1 = false := by kernel_rfl
@[simp] theorem tcs_1 : tcs Tryz.prog 1 = [1] := by kernel_rfl
@[simp] theorem srcT_1 : srcT Tryz.prog 1 = false := by kernel_rfl
@[simp] theorem zok_1 : zok Tryz.prog 1 = true := by kernel_rfl
@[simp] theorem flds_1 : flds Tryz.prog 1 = [] := by kernel_rfl
@[simp] theorem zeros_1 : zeros Tryz.prog 1 = some [Value.nilFunc] := by kernel_rfl
@[simp] theorem isinfo_1 : (Tryz.prog.info? 1).isSome = true := by kernel_rfl
@[simp] theorem isund_1 : (Tryz.prog.underlying 1).isSome = true := by kernel_rfl
@[simp] theorem cellsOf_2 : Tryz.prog.cellsOf 2 = 1 := by kernel_rfl
@[simp] theorem bytesOf_2 : Tryz.prog.bytesOf 2 = 8 := by kernel_rfl
@[simp] theorem slel_2 : slel Tryz.prog 2 = none := by kernel_rfl
@[simp] theorem isAggB_2 : isAggB Tryz.prog 2 = false := by kernel_rfl
@[simp] theorem tOk_2 : tOk Tryz.prog 2 = true := by kernel_rfl
@[simp] theorem arrOf_2 : arrOf Tryz.prog 2 = none := by kernel_rfl
@[simp] theorem strB_2 : strB Tryz.prog 2 = false := by kernel_rfl
@[simp] theorem bolB_2 : bolB Tryz.prog 2 = false := by kernel_rfl
@[simp] theorem mapB_2 : mapB Tryz.prog 2 = false := by kernel_rfl
@[simp] theorem intK_2 : intK Tryz.prog 2 = some IntKind.i64 := by kernel_rfl
@[simp] theorem zrow_2 : zrow Tryz.prog 2 = some [AV.sc (Value.int IntKind.i64 0)] := by kernel_rfl
@[simp] theorem bldOk_2 : bldOk Tryz.prog 2 = false := by kernel_rfl
@[simp] theorem tcs_2 : tcs Tryz.prog 2 = [2] := by kernel_rfl
@[simp] theorem srcT_2 : srcT Tryz.prog 2 = false := by kernel_rfl
@[simp] theorem zok_2 : zok Tryz.prog 2 = true := by kernel_rfl
@[simp] theorem flds_2 : flds Tryz.prog 2 = [] := by kernel_rfl
@[simp] theorem zeros_2 : zeros Tryz.prog 2 = some [Value.int IntKind.i64 0] := by kernel_rfl
@[simp] theorem isinfo_2 : (Tryz.prog.info? 2).isSome = true := by kernel_rfl
@[simp] theorem isund_2 : (Tryz.prog.underlying 2).isSome = true := by kernel_rfl
@[simp] theorem cellsOf_3 : Tryz.prog.cellsOf 3 = 1 := by kernel_rfl
@[simp] theorem bytesOf_3 : Tryz.prog.bytesOf 3 = 8 := by kernel_rfl
@[simp] theorem slel_3 : slel Tryz.prog 3 = none := by kernel_rfl
@[simp] theorem isAggB_3 : isAggB Tryz.prog 3 = false := by kernel_rfl
@[simp] theorem tOk_3 : tOk Tryz.prog 3 = true := by kernel_rfl
@[simp] theorem arrOf_3 : arrOf Tryz.prog 3 = none := by kernel_rfl
@[simp] theorem strB_3 : strB Tryz.prog 3 = false := by kernel_rfl
@[simp] theorem bolB_3 : bolB Tryz.prog 3 = false := by kernel_rfl
@[simp] theorem mapB_3 : mapB Tryz.prog 3 = false := by kernel_rfl
@[simp] theorem intK_3 : intK Tryz.prog 3 = some IntKind.i64 := by kernel_rfl
@[simp] theorem zrow_3 : zrow Tryz.prog 3 = some [AV.sc (Value.int IntKind.i64 0)] := by kernel_rfl
@[simp] theorem bldOk_3 : bldOk Tryz.prog 3 = false := by kernel_rfl
@[simp] theorem tcs_3 : tcs Tryz.prog 3 = [3] := by kernel_rfl
@[simp] theorem srcT_3 : srcT Tryz.prog 3 = false := by kernel_rfl
@[simp] theorem zok_3 : zok Tryz.prog 3 = true := by kernel_rfl
@[simp] theorem flds_3 : flds Tryz.prog 3 = [] := by kernel_rfl
@[simp] theorem zeros_3 : zeros Tryz.prog 3 = some [Value.int IntKind.i64 0] := by kernel_rfl
@[simp] theorem isinfo_3 : (Tryz.prog.info? 3).isSome = true := by kernel_rfl
@[simp] theorem isund_3 : (Tryz.prog.underlying 3).isSome = true := by kernel_rfl
@[simp] theorem cellsOf_4 : Tryz.prog.cellsOf 4 = 1 := by kernel_rfl
@[simp] theorem bytesOf_4 : Tryz.prog.bytesOf 4 = 1 := by kernel_rfl
@[simp] theorem slel_4 : slel Tryz.prog 4 = none := by kernel_rfl
@[simp] theorem isAggB_4 : isAggB Tryz.prog 4 = false := by kernel_rfl
@[simp] theorem tOk_4 : tOk Tryz.prog 4 = true := by kernel_rfl
@[simp] theorem arrOf_4 : arrOf Tryz.prog 4 = none := by kernel_rfl
@[simp] theorem strB_4 : strB Tryz.prog 4 = false := by kernel_rfl
@[simp] theorem bolB_4 : bolB Tryz.prog 4 = true := by kernel_rfl
@[simp] theorem mapB_4 : mapB Tryz.prog 4 = false := by kernel_rfl
@[simp] theorem intK_4 : intK Tryz.prog 4 = none := by kernel_rfl
@[simp] theorem zrow_4 : zrow Tryz.prog 4 = some [AV.sc (Value.bool false)] := by kernel_rfl
@[simp] theorem bldOk_4 : bldOk Tryz.prog 4 = false := by kernel_rfl
@[simp] theorem tcs_4 : tcs Tryz.prog 4 = [4] := by kernel_rfl
@[simp] theorem srcT_4 : srcT Tryz.prog 4 = false := by kernel_rfl
@[simp] theorem zok_4 : zok Tryz.prog 4 = true := by kernel_rfl
@[simp] theorem flds_4 : flds Tryz.prog 4 = [] := by kernel_rfl
@[simp] theorem zeros_4 : zeros Tryz.prog 4 = some [Value.bool false] := by kernel_rfl
@[simp] theorem isinfo_4 : (Tryz.prog.info? 4).isSome = true := by kernel_rfl
@[simp] theorem isund_4 : (Tryz.prog.underlying 4).isSome = true := by kernel_rfl
@[simp] theorem cellsOf_5 : Tryz.prog.cellsOf 5 = 1 := by kernel_rfl
@[simp] theorem bytesOf_5 : Tryz.prog.bytesOf 5 = 1 := by kernel_rfl
@[simp] theorem slel_5 : slel Tryz.prog 5 = none := by kernel_rfl
@[simp] theorem isAggB_5 : isAggB Tryz.prog 5 = false := by kernel_rfl
@[simp] theorem tOk_5 : tOk Tryz.prog 5 = true := by kernel_rfl
@[simp] theorem arrOf_5 : arrOf Tryz.prog 5 = none := by kernel_rfl
@[simp] theorem strB_5 : strB Tryz.prog 5 = false := by kernel_rfl
@[simp] theorem bolB_5 : bolB Tryz.prog 5 = false := by kernel_rfl
@[simp] theorem mapB_5 : mapB Tryz.prog 5 = false := by kernel_rfl
@[simp] theorem intK_5 : intK Tryz.prog 5 = some IntKind.u8 := by kernel_rfl
@[simp] theorem zrow_5 : zrow Tryz.prog 5 = some [AV.sc (Value.int IntKind.u8 0)] := by kernel_rfl
@[simp] theorem bldOk_5 : bldOk Tryz.prog 5 = false := by kernel_rfl
@[simp] theorem tcs_5 : tcs Tryz.prog 5 = [5] := by kernel_rfl
@[simp] theorem srcT_5 : srcT Tryz.prog 5 = false := by kernel_rfl
@[simp] theorem zok_5 : zok Tryz.prog 5 = true := by kernel_rfl
@[simp] theorem flds_5 : flds Tryz.prog 5 = [] := by kernel_rfl
@[simp] theorem zeros_5 : zeros Tryz.prog 5 = some [Value.int IntKind.u8 0] := by kernel_rfl
@[simp] theorem isinfo_5 : (Tryz.prog.info? 5).isSome = true := by kernel_rfl
@[simp] theorem isund_5 : (Tryz.prog.underlying 5).isSome = true := by kernel_rfl
@[simp] theorem cellsOf_6 : Tryz.prog.cellsOf 6 = 1 := by kernel_rfl
@[simp] theorem bytesOf_6 : Tryz.prog.bytesOf 6 = 1 := by kernel_rfl
@[simp] theorem slel_6 : slel Tryz.prog 6 = none := by kernel_rfl
@[simp] theorem isAggB_6 : isAggB Tryz.prog 6 = false := by kernel_rfl
@[simp] theorem tOk_6 : tOk Tryz.prog 6 = true := by kernel_rfl
@[simp] theorem arrOf_6 : arrOf Tryz.prog 6 = none := by kernel_rfl
@[simp] theorem strB_6 : strB Tryz.prog 6 = false := by kernel_rfl
@[simp] theorem bolB_6 : bolB Tryz.prog 6 = false := by kernel_rfl
@[simp] theorem mapB_6 : mapB Tryz.prog 6 = false := by kernel_rfl
@[simp] theorem intK_6 : intK Tryz.prog 6 = some IntKind.u8 := by kernel_rfl
@[simp] theorem zrow_6 : zrow Tryz.prog 6 = some [AV.sc (Value.int IntKind.u8 0)] := by kernel_rfl
@[simp] theorem bldOk_6 : bldOk Tryz.prog 6 = false := by kernel_rfl
@[simp] theorem tcs_6 : tcs Tryz.prog 6 = [6] := by kernel_rfl
@[simp] theorem srcT_6 : srcT Tryz.prog 6 = false := by kernel_rfl
@[simp] theorem zok_6 : zok Tryz.prog 6 = true := by kernel_rfl
@[simp] theorem flds_6 : flds Tryz.prog 6 = [] := by kernel_rfl
@[simp] theorem zeros_6 : zeros Tryz.prog 6 = some [Value.int IntKind.u8 0] := by kernel_rfl
@[simp] theorem isinfo_6 : (Tryz.prog.info? 6).isSome = true := by kernel_rfl
@[simp] theorem isund_6 : (Tryz.prog.underlying 6).isSome = true := by kernel_rfl
@[simp] theorem cellsOf_7 : Tryz.prog.cellsOf 7 = 4 := by kernel_rfl
@[simp] theorem bytesOf_7 : Tryz.prog.bytesOf 7 = 24 := by kernel_rfl
@[simp] theorem slel_7 : slel Tryz.prog 7 = none := by kernel_rfl
@[simp] theorem isAggB_7 : isAggB Tryz.prog 7 = true := by kernel_rfl
@[simp] theorem tOk_7 : tOk Tryz.prog 7 = true := by kernel_rfl
@[simp] theorem arrOf_7 : arrOf Tryz.prog 7 = none := by kernel_rfl
@[simp] theorem strB_7 : strB Tryz.prog 7 = false := by kernel_rfl
@[simp] theorem bolB_7 : bolB Tryz.prog 7 = false := by kernel_rfl
@[simp] theorem mapB_7 : mapB Tryz.prog 7 = false := by kernel_rfl
@[simp] theorem intK_7 : intK Tryz.prog 7 = none := by kernel_rfl
@[simp] theorem zrow_7 : zrow Tryz.prog 7 = some [AV.sc (Value.int IntKind.i64 0), AV.sc (Value.int IntKind.i64 0), AV.sc (Value.bool false), AV.sc (Value.int IntKind.u8 0)] := by kernel_rfl
@[simp] theorem bldOk_7 : bldOk Tryz.prog 7 = true := by kernel_rfl
@[simp] theorem tcs_7 : tcs Tryz.prog 7 = [2, 3, 4, 6] := by kernel_rfl
@[simp] theorem srcT_7 : srcT Tryz.prog 7 = false := by kernel_rfl
@[simp] theorem zok_7 : zok Tryz.prog 7 = true := by kernel_rfl
@[simp] theorem flds_7 : flds Tryz.prog 7 = [(0, 1, 2), (1, 1, 3), (2, 1, 4), (3, 1, 6)] := by kernel_rfl
@[simp] theorem zeros_7 : zeros Tryz.prog 7 = some [Value.int IntKind.i64 0, Value.int IntKind.i64 0, Value.bool false, Value.int IntKind.u8 0] := by kernel_rfl
@[simp] theorem isinfo_7 : (Tryz.prog.info? 7).isSome = true := by kernel_rfl
@[simp] theorem isund_7 : (Tryz.prog.underlying 7).isSome = true := by kernel_rfl
@[simp] theorem cellsOf_8 : Tryz.prog.cellsOf 8 = 4 := by kernel_rfl
@[simp] theorem bytesOf_8 : Tryz.prog.bytesOf 8 = 24 := by kernel_rfl
@[simp] theorem slel_8 : slel Tryz.prog 8 = none := by kernel_rfl
@[simp] theorem isAggB_8 : isAggB Tryz.prog 8 = true := by kernel_rfl
@[simp] theorem tOk_8 : tOk Tryz.prog 8 = true := by kernel_rfl
@[simp] theorem arrOf_8 : arrOf Tryz.prog 8 = none := by kernel_rfl
@[simp] theorem strB_8 : strB Tryz.prog 8 = false := by kernel_rfl
@[simp] theorem bolB_8 : bolB Tryz.prog 8 = false := by kernel_rfl
@[simp] theorem mapB_8 : mapB Tryz.prog 8 = false := by kernel_rfl
@[simp] theorem intK_8 : intK Tryz.prog 8 = none := by kernel_rfl
@[simp] theorem zrow_8 : zrow Tryz.prog 8 = some [AV.sc (Value.int IntKind.i64 0), AV.sc (Value.int IntKind.i64 0), AV.sc (Value.bool false), AV.sc (Value.int IntKind.u8 0)] := by kernel_rfl
@[simp] theorem bldOk_8 : bldOk Tryz.prog 8 = true := by kernel_rfl
@[simp] theorem tcs_8 : tcs Tryz.prog 8 = [2, 3, 4, 6] := by kernel_rfl
@[simp] theorem srcT_8 : srcT Tryz.prog 8 = false := by kernel_rfl
@[simp] theorem zok_8 : zok Tryz.prog 8 = true := by kernel_rfl
@[simp] theorem flds_8 : flds Tryz.prog 8 = [(0, 1, 2), (1, 1, 3), (2, 1, 4), (3, 1, 6)] := by kernel_rfl
@[simp] theorem zeros_8 : zeros Tryz.prog 8 = some [Value.int IntKind.i64 0, Value.int IntKind.i64 0, Value.bool false, Value.int IntKind.u8 0] := by kernel_rfl
@[simp] theorem isinfo_8 : (Tryz.prog.info? 8).isSome = true := by kernel_rfl
@[simp] theorem isund_8 : (Tryz.prog.underlying 8).isSome = true := by kernel_rfl
@[simp] theorem cellsOf_9 : Tryz.prog.cellsOf 9 = 1 := by kernel_rfl
@[simp] theorem bytesOf_9 : Tryz.prog.bytesOf 9 = 16 := by kernel_rfl
@[simp] theorem slel_9 : slel Tryz.prog 9 = none := by kernel_rfl
@[simp] theorem isAggB_9 : isAggB Tryz.prog 9 = false := by kernel_rfl
@[simp] theorem tOk_9 : tOk Tryz.prog 9 = true := by kernel_rfl
@[simp] theorem arrOf_9 : arrOf Tryz.prog 9 = none := by kernel_rfl
@[simp] theorem strB_9 : strB Tryz.prog 9 = true := by kernel_rfl
@[simp] theorem bolB_9 : bolB Tryz.prog 9 = false := by kernel_rfl
@[simp] theorem mapB_9 : mapB Tryz.prog 9 = false := by kernel_rfl
@[simp] theorem intK_9 : intK Tryz.prog 9 = none := by kernel_rfl
@[simp] theorem zrow_9 : zrow Tryz.prog 9 = some [AV.sc (Value.string { data := { toList := [] } })] := by kernel_rfl
@[simp] theorem bldOk_9 : bldOk Tryz.prog 9 = false := by kernel_rfl
@[simp] theorem tcs_9 : tcs Tryz.prog 9 = [9] := by kernel_rfl
@[simp] theorem srcT_9 : srcT Tryz.prog 9 = true := by kernel_rfl
@[simp] theorem zok_9 : zok Tryz.prog 9 = true := by kernel_rfl
@[simp] theorem flds_9 : flds Tryz.prog 9 = [] := by kernel_rfl
@[simp] theorem zeros_9 : zeros Tryz.prog 9 = some [Value.string { data := { toList := [] } }] := by kernel_rfl
@[simp] theorem isinfo_9 : (Tryz.prog.info? 9).isSome = true := by kernel_rfl
@[simp] theorem isund_9 : (Tryz.prog.underlying 9).isSome = true := by kernel_rfl
@[simp] theorem cellsOf_16 : Tryz.prog.cellsOf 16 = 1 := by kernel_rfl
@[simp] theorem bytesOf_16 : Tryz.prog.bytesOf 16 = 8 := by kernel_rfl
@[simp] theorem slel_16 : slel Tryz.prog 16 = none := by kernel_rfl
@[simp] theorem isAggB_16 : isAggB Tryz.prog 16 = false := by kernel_rfl
@[simp] theorem tOk_16 : tOk Tryz.prog 16 = true := by kernel_rfl
@[simp] theorem arrOf_16 : arrOf Tryz.prog 16 = none := by kernel_rfl
@[simp] theorem strB_16 : strB Tryz.prog 16 = false := by kernel_rfl
@[simp] theorem bolB_16 : bolB Tryz.prog 16 = false := by kernel_rfl
@[simp] theorem mapB_16 : mapB Tryz.prog 16 = false := by kernel_rfl
@[simp] theorem intK_16 : intK Tryz.prog 16 = none := by kernel_rfl
@[simp] theorem zrow_16 : zrow Tryz.prog 16 = some [AV.sc (Value.pointer none)] := by kernel_rfl
@[simp] theorem bldOk_16 : bldOk Tryz.prog 16 = false := by kernel_rfl
@[simp] theorem tcs_16 : tcs Tryz.prog 16 = [16] := by kernel_rfl
@[simp] theorem srcT_16 : srcT Tryz.prog 16 = false := by kernel_rfl
@[simp] theorem zok_16 : zok Tryz.prog 16 = true := by kernel_rfl
@[simp] theorem flds_16 : flds Tryz.prog 16 = [] := by kernel_rfl
@[simp] theorem zeros_16 : zeros Tryz.prog 16 = some [Value.pointer none] := by kernel_rfl
@[simp] theorem isinfo_16 : (Tryz.prog.info? 16).isSome = true := by kernel_rfl
@[simp] theorem isund_16 : (Tryz.prog.underlying 16).isSome = true := by kernel_rfl
@[simp] theorem cellsOf_17 : Tryz.prog.cellsOf 17 = 1 := by kernel_rfl
@[simp] theorem bytesOf_17 : Tryz.prog.bytesOf 17 = 8 := by kernel_rfl
@[simp] theorem slel_17 : slel Tryz.prog 17 = none := by kernel_rfl
@[simp] theorem isAggB_17 : isAggB Tryz.prog 17 = false := by kernel_rfl
@[simp] theorem tOk_17 : tOk Tryz.prog 17 = true := by kernel_rfl
@[simp] theorem arrOf_17 : arrOf Tryz.prog 17 = none := by kernel_rfl
@[simp] theorem strB_17 : strB Tryz.prog 17 = false := by kernel_rfl
@[simp] theorem bolB_17 : bolB Tryz.prog 17 = false := by kernel_rfl
@[simp] theorem mapB_17 : mapB Tryz.prog 17 = false := by kernel_rfl
@[simp] theorem intK_17 : intK Tryz.prog 17 = none := by kernel_rfl
@[simp] theorem zrow_17 : zrow Tryz.prog 17 = some [AV.sc (Value.pointer none)] := by kernel_rfl
@[simp] theorem bldOk_17 : bldOk Tryz.prog 17 = false := by kernel_rfl
@[simp] theorem tcs_17 : tcs Tryz.prog 17 = [17] := by kernel_rfl
@[simp] theorem srcT_17 : srcT Tryz.prog 17 = false := by kernel_rfl
@[simp] theorem zok_17 : zok Tryz.prog 17 = true := by kernel_rfl
@[simp] theorem flds_17 : flds Tryz.prog 17 = [] := by kernel_rfl
@[simp] theorem zeros_17 : zeros Tryz.prog 17 = some [Value.pointer none] := by kernel_rfl
@[simp] theorem isinfo_17 : (Tryz.prog.info? 17).isSome = true := by kernel_rfl
@[simp] theorem isund_17 : (Tryz.prog.underlying 17).isSome = true := by kernel_rfl
@[simp] theorem cellsOf_18 : Tryz.prog.cellsOf 18 = 1 := by kernel_rfl
@[simp] theorem bytesOf_18 : Tryz.prog.bytesOf 18 = 8 := by kernel_rfl
@[simp] theorem slel_18 : slel Tryz.prog 18 = none := by kernel_rfl
@[simp] theorem isAggB_18 : isAggB Tryz.prog 18 = true := by kernel_rfl
@[simp] theorem tOk_18 : tOk Tryz.prog 18 = true := by kernel_rfl
@[simp] theorem arrOf_18 : arrOf Tryz.prog 18 = none := by kernel_rfl
@[simp] theorem strB_18 : strB Tryz.prog 18 = false := by kernel_rfl
@[simp] theorem bolB_18 : bolB Tryz.prog 18 = false := by kernel_rfl
@[simp] theorem mapB_18 : mapB Tryz.prog 18 = false := by kernel_rfl
@[simp] theorem intK_18 : intK Tryz.prog 18 = none := by kernel_rfl
@[simp] theorem zrow_18 : zrow Tryz.prog 18 = some [AV.sc (Value.pointer none)] := by kernel_rfl
@[simp] theorem bldOk_18 : bldOk Tryz.prog 18 = true := by kernel_rfl
@[simp] theorem tcs_18 : tcs Tryz.prog 18 = [17] := by kernel_rfl
@[simp] theorem srcT_18 : srcT Tryz.prog 18 = false := by kernel_rfl
@[simp] theorem zok_18 : zok Tryz.prog 18 = true := by kernel_rfl
@[simp] theorem flds_18 : flds Tryz.prog 18 = [(0, 1, 17)] := by kernel_rfl
@[simp] theorem zeros_18 : zeros Tryz.prog 18 = some [Value.pointer none] := by kernel_rfl
@[simp] theorem isinfo_18 : (Tryz.prog.info? 18).isSome = true := by kernel_rfl
@[simp] theorem isund_18 : (Tryz.prog.underlying 18).isSome = true := by kernel_rfl
@[simp] theorem cellsOf_19 : Tryz.prog.cellsOf 19 = 1 := by kernel_rfl
@[simp] theorem bytesOf_19 : Tryz.prog.bytesOf 19 = 8 := by kernel_rfl
@[simp] theorem slel_19 : slel Tryz.prog 19 = none := by kernel_rfl
@[simp] theorem isAggB_19 : isAggB Tryz.prog 19 = true := by kernel_rfl
@[simp] theorem tOk_19 : tOk Tryz.prog 19 = true := by kernel_rfl
@[simp] theorem arrOf_19 : arrOf Tryz.prog 19 = none := by kernel_rfl
@[simp] theorem strB_19 : strB Tryz.prog 19 = false := by kernel_rfl
@[simp] theorem bolB_19 : bolB Tryz.prog 19 = false := by kernel_rfl
@[simp] theorem mapB_19 : mapB Tryz.prog 19 = false := by kernel_rfl
@[simp] theorem intK_19 : intK Tryz.prog 19 = none := by kernel_rfl
@[simp] theorem zrow_19 : zrow Tryz.prog 19 = some [AV.sc (Value.pointer none)] := by kernel_rfl
@[simp] theorem bldOk_19 : bldOk Tryz.prog 19 = true := by kernel_rfl
@[simp] theorem tcs_19 : tcs Tryz.prog 19 = [17] := by kernel_rfl
@[simp] theorem srcT_19 : srcT Tryz.prog 19 = false := by kernel_rfl
@[simp] theorem zok_19 : zok Tryz.prog 19 = true := by kernel_rfl
@[simp] theorem flds_19 : flds Tryz.prog 19 = [(0, 1, 17)] := by kernel_rfl
@[simp] theorem zeros_19 : zeros Tryz.prog 19 = some [Value.pointer none] := by kernel_rfl
@[simp] theorem isinfo_19 : (Tryz.prog.info? 19).isSome = true := by kernel_rfl
@[simp] theorem isund_19 : (Tryz.prog.underlying 19).isSome = true := by kernel_rfl
@[simp] theorem cellsOf_20 : Tryz.prog.cellsOf 20 = 1 := by kernel_rfl
@[simp] theorem bytesOf_20 : Tryz.prog.bytesOf 20 = 16 := by kernel_rfl
@[simp] theorem slel_20 : slel Tryz.prog 20 = none := by kernel_rfl
@[simp] theorem isAggB_20 : isAggB Tryz.prog 20 = false := by kernel_rfl
@[simp] theorem tOk_20 : tOk Tryz.prog 20 = true := by kernel_rfl
@[simp] theorem arrOf_20 : arrOf Tryz.prog 20 = none := by kernel_rfl
@[simp] theorem strB_20 : strB Tryz.prog 20 = false := by kernel_rfl
@[simp] theorem bolB_20 : bolB Tryz.prog 20 = false := by kernel_rfl
@[simp] theorem mapB_20 : mapB Tryz.prog 20 = false := by kernel_rfl
@[simp] theorem intK_20 : intK Tryz.prog 20 = none := by kernel_rfl
@[simp] theorem zrow_20 : zrow Tryz.prog 20 = some [AV.sc Value.nilIface] := by kernel_rfl
@[simp] theorem bldOk_20 : bldOk Tryz.prog 20 = false := by kernel_rfl
@[simp] theorem tcs_20 : tcs Tryz.prog 20 = [20] := by kernel_rfl
@[simp] theorem srcT_20 : srcT Tryz.prog 20 = false := by kernel_rfl
@[simp] theorem zok_20 : zok Tryz.prog 20 = true := by kernel_rfl
@[simp] theorem flds_20 : flds Tryz.prog 20 = [] := by kernel_rfl
@[simp] theorem zeros_20 : zeros Tryz.prog 20 = some [Value.nilIface] := by kernel_rfl
@[simp] theorem isinfo_20 : (Tryz.prog.info? 20).isSome = true := by kernel_rfl
@[simp] theorem isund_20 : (Tryz.prog.underlying 20).isSome = true := by kernel_rfl
@[simp] theorem cellsOf_21 : Tryz.prog.cellsOf 21 = 1 := by kernel_rfl
@[simp] theorem bytesOf_21 : Tryz.prog.bytesOf 21 = 4 := by kernel_rfl
@[simp] theorem slel_21 : slel Tryz.prog 21 = none := by kernel_rfl
@[simp] theorem isAggB_21 : isAggB Tryz.prog 21 = false := by kernel_rfl
@[simp] theorem tOk_21 : tOk Tryz.prog 21 = true := by kernel_rfl
@[simp] theorem arrOf_21 : arrOf Tryz.prog 21 = none := by kernel_rfl
@[simp] theorem strB_21 : strB Tryz.prog 21 = false := by kernel_rfl
@[simp] theorem bolB_21 : bolB Tryz.prog 21 = false := by kernel_rfl
@[simp] theorem mapB_21 : mapB Tryz.prog 21 = false := by kernel_rfl
@[simp] theorem intK_21 : intK Tryz.prog 21 = some IntKind.i32 := by kernel_rfl
@[simp] theorem zrow_21 : zrow Tryz.prog 21 = some [AV.sc (Value.int IntKind.i32 0)] := by kernel_rfl
@[simp] theorem bldOk_21 : bldOk Tryz.prog 21 = false := by kernel_rfl
@[simp] theorem tcs_21 : tcs Tryz.prog 21 = [21] := by kernel_rfl
@[simp] theorem srcT_21 : srcT Tryz.prog 21 = false := by kernel_rfl
@[simp] theorem zok_21 : zok Tryz.prog 21 = true := by kernel_rfl
@[simp] theorem flds_21 : flds Tryz.prog 21 = [] := by kernel_rfl
@[simp] theorem zeros_21 : zeros Tryz.prog 21 = some [Value.int IntKind.i32 0] := by kernel_rfl
@[simp] theorem isinfo_21 : (Tryz.prog.info? 21).isSome = true := by kernel_rfl
@[simp] theorem isund_21 : (Tryz.prog.underlying 21).isSome = true := by kernel_rfl
@[simp] theorem cellsOf_22 : Tryz.prog.cellsOf 22 = 1 := by kernel_rfl
@[simp] theorem bytesOf_22 : Tryz.prog.bytesOf 22 = 4 := by kernel_rfl
@[simp] theorem slel_22 : slel Tryz.prog 22 = none := by kernel_rfl
@[simp] theorem isAggB_22 : isAggB Tryz.prog 22 = false := by kernel_rfl
@[simp] theorem tOk_22 : tOk Tryz.prog 22 = true := by kernel_rfl
@[simp] theorem arrOf_22 : arrOf Tryz.prog 22 = none := by kernel_rfl
@[simp] theorem strB_22 : strB Tryz.prog 22 = false := by kernel_rfl
@[simp] theorem bolB_22 : bolB Tryz.prog 22 = false := by kernel_rfl
@[simp] theorem mapB_22 : mapB Tryz.prog 22 = false := by kernel_rfl
@[simp] theorem intK_22 : intK Tryz.prog 22 = some IntKind.u32 := by kernel_rfl
@[simp] theorem zrow_22 : zrow Tryz.prog 22 = some [AV.sc (Value.int IntKind.u32 0)] := by kernel_rfl
@[simp] theorem bldOk_22 : bldOk Tryz.prog 22 = false := by kernel_rfl
@[simp] theorem tcs_22 : tcs Tryz.prog 22 = [22] := by kernel_rfl
@[simp] theorem srcT_22 : srcT Tryz.prog 22 = false := by kernel_rfl
@[simp] theorem zok_22 : zok Tryz.prog 22 = true := by kernel_rfl
@[simp] theorem flds_22 : flds Tryz.prog 22 = [] := by kernel_rfl
@[simp] theorem zeros_22 : zeros Tryz.prog 22 = some [Value.int IntKind.u32 0] := by kernel_rfl
@[simp] theorem isinfo_22 : (Tryz.prog.info? 22).isSome = true := by kernel_rfl
@[simp] theorem isund_22 : (Tryz.prog.underlying 22).isSome = true := by kernel_rfl
@[simp] theorem cellsOf_23 : Tryz.prog.cellsOf 23 = 4 := by kernel_rfl
@[simp] theorem bytesOf_23 : Tryz.prog.bytesOf 23 = 16 := by kernel_rfl
@[simp] theorem slel_23 : slel Tryz.prog 23 = none := by kernel_rfl
@[simp] theorem isAggB_23 : isAggB Tryz.prog 23 = true := by kernel_rfl
@[simp] theorem tOk_23 : tOk Tryz.prog 23 = true := by kernel_rfl
@[simp] theorem arrOf_23 : arrOf Tryz.prog 23 = some (4, 22) := by kernel_rfl
@[simp] theorem strB_23 : strB Tryz.prog 23 = false := by kernel_rfl
@[simp] theorem bolB_23 : bolB Tryz.prog 23 = false := by kernel_rfl
@[simp] theorem mapB_23 : mapB Tryz.prog 23 = false := by kernel_rfl
@[simp] theorem intK_23 : intK Tryz.prog 23 = none := by kernel_rfl
@[simp] theorem zrow_23 : zrow Tryz.prog 23 = some [AV.sc (Value.int IntKind.u32 0), AV.sc (Value.int IntKind.u32 0), AV.sc (Value.int IntKind.u32 0), AV.sc (Value.int IntKind.u32 0)] := by kernel_rfl
@[simp] theorem bldOk_23 : bldOk Tryz.prog 23 = true := by kernel_rfl
@[simp] theorem tcs_23 : tcs Tryz.prog 23 = [22, 22, 22, 22] := by kernel_rfl
@[simp] theorem srcT_23 : srcT Tryz.prog 23 = false := by kernel_rfl
@[simp] theorem zok_23 : zok Tryz.prog 23 = true := by kernel_rfl
@[simp] theorem flds_23 : flds Tryz.prog 23 = [] := by kernel_rfl
@[simp] theorem zeros_23 : zeros Tryz.prog 23 = some [Value.int IntKind.u32 0, Value.int IntKind.u32 0, Value.int IntKind.u32 0, Value.int IntKind.u32 0] := by kernel_rfl
@[simp] theorem isinfo_23 : (Tryz.prog.info? 23).isSome = true := by kernel_rfl
@[simp] theorem isund_23 : (Tryz.prog.underlying 23).isSome = true := by kernel_rfl
@[simp] theorem cellsOf_24 : Tryz.prog.cellsOf 24 = 4 := by kernel_rfl
@[simp] theorem bytesOf_24 : Tryz.prog.bytesOf 24 = 16 := by kernel_rfl
@[simp] theorem slel_24 : slel Tryz.prog 24 = none := by kernel_rfl
@[simp] theorem isAggB_24 : isAggB Tryz.prog 24 = true := by kernel_rfl
@[simp] theorem tOk_24 : tOk Tryz.prog 24 = true := by kernel_rfl
@[simp] theorem arrOf_24 : arrOf Tryz.prog 24 = some (4, 22) := by kernel_rfl
@[simp] theorem strB_24 : strB Tryz.prog 24 = false := by kernel_rfl
@[simp] theorem bolB_24 : bolB Tryz.prog 24 = false := by kernel_rfl
@[simp] theorem mapB_24 : mapB Tryz.prog 24 = false := by kernel_rfl
@[simp] theorem intK_24 : intK Tryz.prog 24 = none := by kernel_rfl
@[simp] theorem zrow_24 : zrow Tryz.prog 24 = some [AV.sc (Value.int IntKind.u32 0), AV.sc (Value.int IntKind.u32 0), AV.sc (Value.int IntKind.u32 0), AV.sc (Value.int IntKind.u32 0)] := by kernel_rfl
@[simp] theorem bldOk_24 : bldOk Tryz.prog 24 = true := by kernel_rfl
@[simp] theorem tcs_24 : tcs Tryz.prog 24 = [22, 22, 22, 22] := by kernel_rfl
@[simp] theorem srcT_24 : srcT Tryz.prog 24 = false := by kernel_rfl
@[simp] theorem zok_24 : zok Tryz.prog 24 = true := by kernel_rfl
@[simp] theorem flds_24 : flds Tryz.prog 24 = [] := by kernel_rfl
@[simp] theorem zeros_24 : zeros Tryz.prog 24 = some [Value.int IntKind.u32 0, Value.int IntKind.u32 0, Value.int IntKind.u32 0, Value.int IntKind.u32 0] := by kernel_rfl
@[simp] theorem isinfo_24 : (Tryz.prog.info? 24).isSome = true := by kernel_rfl
@[simp] theorem isund_24 : (Tryz.prog.underlying 24).isSome = true := by kernel_rfl
@[simp] theorem cellsOf_25 : Tryz.prog.cellsOf 25 = 6 := by kernel_rfl
@[simp] theorem bytesOf_25 : Tryz.prog.bytesOf 25 = 32 := by kernel_rfl
@[simp] theorem slel_25 : slel Tryz.prog 25 = none := by kernel_rfl
@[simp] theorem isAggB_25 : isAggB Tryz.prog 25 = true := by kernel_rfl
@[simp] theorem tOk_25 : tOk Tryz.prog 25 = true := by kernel_rfl
@[simp] theorem arrOf_25 : arrOf Tryz.prog 25 = none := by kernel_rfl
@[simp] theorem strB_25 : strB Tryz.prog 25 = false := by kernel_rfl
@[simp] theorem bolB_25 : bolB Tryz.prog 25 = false := by kernel_rfl
@[simp] theorem mapB_25 : mapB Tryz.prog 25 = false := by kernel_rfl
@[simp] theorem intK_25 : intK Tryz.prog 25 = none := by kernel_rfl
@[simp] theorem zrow_25 : zrow Tryz.prog 25 = some [AV.sc (Value.int IntKind.u32 0), AV.sc (Value.int IntKind.u32 0), AV.sc (Value.int IntKind.u32 0), AV.sc (Value.int IntKind.u32 0), AV.sc (Value.int IntKind.i64 0), AV.sc (Value.int IntKind.i64 0)] := by kernel_rfl
@[simp] theorem bldOk_25 : bldOk Tryz.prog 25 = true := by kernel_rfl
@[simp] theorem tcs_25 : tcs Tryz.prog 25 = [22, 22, 22, 22, 3, 3] := by kernel_rfl
@[simp] theorem srcT_25 : srcT Tryz.prog 25 = false := by kernel_rfl
@[simp] theorem zok_25 : zok Tryz.prog 25 = true := by kernel_rfl
@[simp] theorem flds_25 : flds Tryz.prog 25 = [(0, 4, 24), (4, 1, 3), (5, 1, 3)] := by kernel_rfl
@[simp] theorem zeros_25 : zeros Tryz.prog 25 = some [Value.int IntKind.u32 0, Value.int IntKind.u32 0, Value.int IntKind.u32 0, Value.int IntKind.u32 0, Value.int IntKind.i64 0, Value.int IntKind.i64 0] := by kernel_rfl
@[simp] theorem isinfo_25 : (Tryz.prog.info? 25).isSome = true := by kernel_rfl
@[simp] theorem isund_25 : (Tryz.prog.underlying 25).isSome = true := by kernel_rfl
@[simp] theorem cellsOf_26 : Tryz.prog.cellsOf 26 = 6 := by kernel_rfl
@[simp] theorem bytesOf_26 : Tryz.prog.bytesOf 26 = 32 := by kernel_rfl
@[simp] theorem slel_26 : slel Tryz.prog 26 = none := by kernel_rfl
@[simp] theorem isAggB_26 : isAggB Tryz.prog 26 = true := by kernel_rfl
@[simp] theorem tOk_26 : tOk Tryz.prog 26 = true := by kernel_rfl
@[simp] theorem arrOf_26 : arrOf Tryz.prog 26 = none := by kernel_rfl
@[simp] theorem strB_26 : strB Tryz.prog 26 = false := by kernel_rfl
@[simp] theorem bolB_26 : bolB Tryz.prog 26 = false := by kernel_rfl
@[simp] theorem mapB_26 : mapB Tryz.prog 26 = false := by kernel_rfl
@[simp] theorem intK_26 : intK Tryz.prog 26 = none := by kernel_rfl
@[simp] theorem zrow_26 : zrow Tryz.prog 26 = some [AV.sc (Value.int IntKind.u32 0), AV.sc (Value.int IntKind.u32 0), AV.sc (Value.int IntKind.u32 0), AV.sc (Value.int IntKind.u32 0), AV.sc (Value.int IntKind.i64 0), AV.sc (Value.int IntKind.i64 0)] := by kernel_rfl
@[simp] theorem bldOk_26 : bldOk Tryz.prog 26 = true := by kernel_rfl
@[simp] theorem tcs_26 : tcs Tryz.prog 26 = [22, 22, 22, 22, 3, 3] := by kernel_rfl
@[simp] theorem srcT_26 : srcT Tryz.prog 26 = false := by kernel_rfl
@[simp] theorem zok_26 : zok Tryz.prog 26 = true := by kernel_rfl
@[simp] theorem flds_26 : flds Tryz.prog 26 = [(0, 4, 24), (4, 1, 3), (5, 1, 3)] := by kernel_rfl
@[simp] theorem zeros_26 : zeros Tryz.prog 26 = some [Value.int IntKind.u32 0, Value.int IntKind.u32 0, Value.int IntKind.u32 0, Value.int IntKind.u32 0, Value.int IntKind.i64 0, Value.int IntKind.i64 0] := by kernel_rfl
@[simp] theorem isinfo_26 : (Tryz.prog.info? 26).isSome = true := by kernel_rfl
@[simp] theorem isund_26 : (Tryz.prog.underlying 26).isSome = true := by kernel_rfl
@[simp] theorem cellsOf_27 : Tryz.prog.cellsOf 27 = 8 := by kernel_rfl
@[simp] theorem bytesOf_27 : Tryz.prog.bytesOf 27 = 32 := by kernel_rfl
@[simp] theorem slel_27 : slel Tryz.prog 27 = none := by kernel_rfl
@[simp] theorem isAggB_27 : isAggB Tryz.prog 27 = true := by kernel_rfl
@[simp] theorem tOk_27 : tOk Tryz.prog 27 = true := by kernel_rfl
@[simp] theorem arrOf_27 : arrOf Tryz.prog 27 = none := by kernel_rfl
@[simp] theorem strB_27 : strB Tryz.prog 27 = false := by kernel_rfl
@[simp] theorem bolB_27 : bolB Tryz.prog 27 = false := by kernel_rfl
@[simp] theorem mapB_27 : mapB Tryz.prog 27 = false := by kernel_rfl
@[simp] theorem intK_27 : intK Tryz.prog 27 = none := by kernel_rfl
@[simp] theorem zrow_27 : zrow Tryz.prog 27 = some [AV.sc (Value.int IntKind.u32 0), AV.sc (Value.int IntKind.u32 0), AV.sc (Value.int IntKind.u32 0), AV.sc (Value.int IntKind.u32 0), AV.sc (Value.int IntKind.u32 0), AV.sc (Value.int IntKind.u32 0), AV.sc (Value.int IntKind.u32 0), AV.sc (Value.int IntKind.u32 0)] := by kernel_rfl
@[simp] theorem bldOk_27 : bldOk Tryz.prog 27 = true := by kernel_rfl
@[simp] theorem tcs_27 : tcs Tryz.prog 27 = [22, 22, 22, 22, 22, 22, 22, 22] := by kernel_rfl
@[simp] theorem srcT_27 : srcT Tryz.prog 27 = false := by kernel_rfl
@[simp] theorem zok_27 : zok Tryz.prog 27 = true := by kernel_rfl
@[simp] theorem flds_27 : flds Tryz.prog 27 = [(0, 4, 24), (4, 4, 24)] := by kernel_rfl
@[simp] theorem zeros_27 : zeros Tryz.prog 27 = some [Value.int IntKind.u32 0, Value.int IntKind.u32 0, Value.int IntKind.u32 0, Value.int IntKind.u32 0, Value.int IntKind.u32 0, Value.int IntKind.u32 0, Value.int IntKind.u32 0, Value.int IntKind.u32 0] := by kernel_rfl
@[simp] theorem isinfo_27 : (Tryz.prog.info? 27).isSome = true := by kernel_rfl
@[simp] theorem isund_27 : (Tryz.prog.underlying 27).isSome = true := by kernel_rfl
@[simp] theorem cellsOf_28 : Tryz.prog.cellsOf 28 = 8 := by kernel_rfl
@[simp] theorem bytesOf_28 : Tryz.prog.bytesOf 28 = 32 := by kernel_rfl
@[simp] theorem slel_28 : slel Tryz.prog 28 = none := by kernel_rfl
@[simp] theorem isAggB_28 : isAggB Tryz.prog 28 = true := by kernel_rfl
@[simp] theorem tOk_28 : tOk Tryz.prog 28 = true := by kernel_rfl
@[simp] theorem arrOf_28 : arrOf Tryz.prog 28 = none := by kernel_rfl
@[simp] theorem strB_28 : strB Tryz.prog 28 = false := by kernel_rfl
@[simp] theorem bolB_28 : bolB Tryz.prog 28 = false := by kernel_rfl
@[simp] theorem mapB_28 : mapB Tryz.prog 28 = false := by kernel_rfl
@[simp] theorem intK_28 : intK Tryz.prog 28 = none := by kernel_rfl
@[simp] theorem zrow_28 : zrow Tryz.prog 28 = some [AV.sc (Value.int IntKind.u32 0), AV.sc (Value.int IntKind.u32 0), AV.sc (Value.int IntKind.u32 0), AV.sc (Value.int IntKind.u32 0), AV.sc (Value.int IntKind.u32 0), AV.sc (Value.int IntKind.u32 0), AV.sc (Value.int IntKind.u32 0), AV.sc (Value.int IntKind.u32 0)] := by kernel_rfl
@[simp] theorem bldOk_28 : bldOk Tryz.prog 28 = true := by kernel_rfl
@[simp] theorem tcs_28 : tcs Tryz.prog 28 = [22, 22, 22, 22, 22, 22, 22, 22] := by kernel_rfl
@[simp] theorem srcT_28 : srcT Tryz.prog 28 = false := by kernel_rfl
@[simp] theorem zok_28 : zok Tryz.prog 28 = true := by kernel_rfl
@[simp] theorem flds_28 : flds Tryz.prog 28 = [(0, 4, 24), (4, 4, 24)] := by kernel_rfl
@[simp] theorem zeros_28 : zeros Tryz.prog 28 = some [Value.int IntKind.u32 0, Value.int IntKind.u32 0, Value.int IntKind.u32 0, Value.int IntKind.u32 0, Value.int IntKind.u32 0, Value.int IntKind.u32 0, Value.int IntKind.u32 0, Value.int IntKind.u32 0] := by kernel_rfl
@[simp] theorem isinfo_28 : (Tryz.prog.info? 28).isSome = true := by kernel_rfl
@[simp] theorem isund_28 : (Tryz.prog.underlying 28).isSome = true := by kernel_rfl
@[simp] theorem cellsOf_30 : Tryz.prog.cellsOf 30 = 1 := by kernel_rfl
@[simp] theorem bytesOf_30 : Tryz.prog.bytesOf 30 = 24 := by kernel_rfl
@[simp] theorem slel_30 : slel Tryz.prog 30 = some 24 := by kernel_rfl
@[simp] theorem isAggB_30 : isAggB Tryz.prog 30 = false := by kernel_rfl
@[simp] theorem tOk_30 : tOk Tryz.prog 30 = true := by kernel_rfl
@[simp] theorem arrOf_30 : arrOf Tryz.prog 30 = none := by kernel_rfl
@[simp] theorem strB_30 : strB Tryz.prog 30 = false := by kernel_rfl
@[simp] theorem bolB_30 : bolB Tryz.prog 30 = false := by kernel_rfl
@[simp] theorem mapB_30 : mapB Tryz.prog 30 = false := by kernel_rfl
@[simp] theorem intK_30 : intK Tryz.prog 30 = none := by kernel_rfl
@[simp] theorem zrow_30 : zrow Tryz.prog 30 = some [AV.sl false 4 []] := by kernel_rfl
@[simp] theorem bldOk_30 : bldOk Tryz.prog 30 = false := by kernel_rfl
@[simp] theorem tcs_30 : tcs Tryz.prog 30 = [30] := by kernel_rfl
@[simp] theorem srcT_30 : srcT Tryz.prog 30 = true := by kernel_rfl
@[simp] theorem zok_30 : zok Tryz.prog 30 = true := by kernel_rfl
@[simp] theorem flds_30 : flds Tryz.prog 30 = [] := by kernel_rfl
@[simp] theorem zeros_30 : zeros Tryz.prog 30 = some [Value.slice none 0 0] := by kernel_rfl
@[simp] theorem isinfo_30 : (Tryz.prog.info? 30).isSome = true := by kernel_rfl
@[simp] theorem isund_30 : (Tryz.prog.underlying 30).isSome = true := by kernel_rfl
@[simp] theorem cellsOf_31 : Tryz.prog.cellsOf 31 = 1 := by kernel_rfl
@[simp] theorem bytesOf_31 : Tryz.prog.bytesOf 31 = 24 := by kernel_rfl
@[simp] theorem slel_31 : slel Tryz.prog 31 = some 24 := by kernel_rfl
@[simp] theorem isAggB_31 : isAggB Tryz.prog 31 = false := by kernel_rfl
@[simp] theorem tOk_31 : tOk Tryz.prog 31 = true := by kernel_rfl
@[simp] theorem arrOf_31 : arrOf Tryz.prog 31 = none := by kernel_rfl
@[simp] theorem strB_31 : strB Tryz.prog 31 = false := by kernel_rfl
@[simp] theorem bolB_31 : bolB Tryz.prog 31 = false := by kernel_rfl
@[simp] theorem mapB_31 : mapB Tryz.prog 31 = false := by kernel_rfl
@[simp] theorem intK_31 : intK Tryz.prog 31 = none := by kernel_rfl
@[simp] theorem zrow_31 : zrow Tryz.prog 31 = some [AV.sl false 4 []] := by kernel_rfl
@[simp] theorem bldOk_31 : bldOk Tryz.prog 31 = false := by kernel_rfl
@[simp] theorem tcs_31 : tcs Tryz.prog 31 = [31] := by kernel_rfl
@[simp] theorem srcT_31 : srcT Tryz.prog 31 = true := by kernel_rfl
@[simp] theorem zok_31 : zok Tryz.prog 31 = true := by kernel_rfl
@[simp] theorem flds_31 : flds Tryz.prog 31 = [] := by kernel_rfl
@[simp] theorem zeros_31 : zeros Tryz.prog 31 = some [Value.slice none 0 0] := by kernel_rfl
@[simp] theorem isinfo_31 : (Tryz.prog.info? 31).isSome = true := by kernel_rfl
@[simp] theorem isund_31 : (Tryz.prog.underlying 31).isSome = true := by kernel_rfl
@[simp] theorem cellsOf_33 : Tryz.prog.cellsOf 33 = 3 := by kernel_rfl
@[simp] theorem bytesOf_33 : Tryz.prog.bytesOf 33 = 56 := by kernel_rfl
@[simp] theorem slel_33 : slel Tryz.prog 33 = none := by kernel_rfl
@[simp] theorem isAggB_33 : isAggB Tryz.prog 33 = true := by kernel_rfl
@[simp] theorem tOk_33 : tOk Tryz.prog 33 = true := by kernel_rfl
@[simp] theorem arrOf_33 : arrOf Tryz.prog 33 = none := by kernel_rfl
@[simp] theorem strB_33 : strB Tryz.prog 33 = false := by kernel_rfl
@[simp] theorem bolB_33 : bolB Tryz.prog 33 = false := by kernel_rfl
@[simp] theorem mapB_33 : mapB Tryz.prog 33 = false := by kernel_rfl
@[simp] theorem intK_33 : intK Tryz.prog 33 = none := by kernel_rfl
@[simp] theorem zrow_33 : zrow Tryz.prog 33 = some [AV.sc (Value.int IntKind.i64 0), AV.sl false 4 [], AV.sl false 4 []] := by kernel_rfl
@[simp] theorem bldOk_33 : bldOk Tryz.prog 33 = true := by kernel_rfl
@[simp] theorem tcs_33 : tcs Tryz.prog 33 = [3, 31, 30] := by kernel_rfl
@[simp] theorem srcT_33 : srcT Tryz.prog 33 = false := by kernel_rfl
@[simp] theorem zok_33 : zok Tryz.prog 33 = true := by kernel_rfl
@[simp] theorem flds_33 : flds Tryz.prog 33 = [(0, 1, 3), (1, 1, 31), (2, 1, 30)] := by kernel_rfl
@[simp] theorem zeros_33 : zeros Tryz.prog 33 = some [Value.int IntKind.i64 0, Value.slice none 0 0, Value.slice none 0 0] := by kernel_rfl
@[simp] theorem isinfo_33 : (Tryz.prog.info? 33).isSome = true := by kernel_rfl
@[simp] theorem isund_33 : (Tryz.prog.underlying 33).isSome = true := by kernel_rfl
@[simp] theorem cellsOf_35 : Tryz.prog.cellsOf 35 = 7 := by kernel_rfl
@[simp] theorem bytesOf_35 : Tryz.prog.bytesOf 35 = 72 := by kernel_rfl
@[simp] theorem slel_35 : slel Tryz.prog 35 = none := by kernel_rfl
@[simp] theorem isAggB_35 : isAggB Tryz.prog 35 = true := by kernel_rfl
@[simp] theorem tOk_35 : tOk Tryz.prog 35 = true := by kernel_rfl
@[simp] theorem arrOf_35 : arrOf Tryz.prog 35 = none := by kernel_rfl
@[simp] theorem strB_35 : strB Tryz.prog 35 = false := by kernel_rfl
@[simp] theorem bolB_35 : bolB Tryz.prog 35 = false := by kernel_rfl
@[simp] theorem mapB_35 : mapB Tryz.prog 35 = false := by kernel_rfl
@[simp] theorem intK_35 : intK Tryz.prog 35 = none := by kernel_rfl
@[simp] theorem zrow_35 : zrow Tryz.prog 35 = some [AV.sc (Value.int IntKind.u32 0), AV.sc (Value.int IntKind.u32 0), AV.sc (Value.int IntKind.u32 0), AV.sc (Value.int IntKind.u32 0), AV.sc (Value.int IntKind.i64 0), AV.sl false 4 [], AV.sl false 4 []] := by kernel_rfl
@[simp] theorem bldOk_35 : bldOk Tryz.prog 35 = true := by kernel_rfl
@[simp] theorem tcs_35 : tcs Tryz.prog 35 = [22, 22, 22, 22, 3, 31, 30] := by kernel_rfl
@[simp] theorem srcT_35 : srcT Tryz.prog 35 = false := by kernel_rfl
@[simp] theorem zok_35 : zok Tryz.prog 35 = true := by kernel_rfl
@[simp] theorem flds_35 : flds Tryz.prog 35 = [(0, 4, 24), (4, 3, 33)] := by kernel_rfl
@[simp] theorem zeros_35 : zeros Tryz.prog 35 = some [Value.int IntKind.u32 0, Value.int IntKind.u32 0, Value.int IntKind.u32 0, Value.int IntKind.u32 0, Value.int IntKind.i64 0, Value.slice none 0 0, Value.slice none 0 0] := by kernel_rfl
@[simp] theorem isinfo_35 : (Tryz.prog.info? 35).isSome = true := by kernel_rfl
@[simp] theorem isund_35 : (Tryz.prog.underlying 35).isSome = true := by kernel_rfl
@[simp] theorem cellsOf_36 : Tryz.prog.cellsOf 36 = 1 := by kernel_rfl
@[simp] theorem bytesOf_36 : Tryz.prog.bytesOf 36 = 8 := by kernel_rfl
@[simp] theorem slel_36 : slel Tryz.prog 36 = none := by kernel_rfl
@[simp] theorem isAggB_36 : isAggB Tryz.prog 36 = false := by kernel_rfl
@[simp] theorem tOk_36 : tOk Tryz.prog 36 = true := by kernel_rfl
@[simp] theorem arrOf_36 : arrOf Tryz.prog 36 = none := by kernel_rfl
@[simp] theorem strB_36 : strB Tryz.prog 36 = false := by kernel_rfl
@[simp] theorem bolB_36 : bolB Tryz.prog 36 = false := by kernel_rfl
@[simp] theorem mapB_36 : mapB Tryz.prog 36 = false := by kernel_rfl
@[simp] theorem intK_36 : intK Tryz.prog 36 = some IntKind.i64 := by kernel_rfl
@[simp] theorem zrow_36 : zrow Tryz.prog 36 = some [AV.sc (Value.int IntKind.i64 0)] := by kernel_rfl
@[simp] theorem bldOk_36 : bldOk Tryz.prog 36 = false := by kernel_rfl
@[simp] theorem tcs_36 : tcs Tryz.prog 36 = [36] := by kernel_rfl
@[simp] theorem srcT_36 : srcT Tryz.prog 36 = false := by kernel_rfl
@[simp] theorem zok_36 : zok Tryz.prog 36 = true := by kernel_rfl
@[simp] theorem flds_36 : flds Tryz.prog 36 = [] := by kernel_rfl
@[simp] theorem zeros_36 : zeros Tryz.prog 36 = some [Value.int IntKind.i64 0] := by kernel_rfl
@[simp] theorem isinfo_36 : (Tryz.prog.info? 36).isSome = true := by kernel_rfl
@[simp] theorem isund_36 : (Tryz.prog.underlying 36).isSome = true := by kernel_rfl
@[simp] theorem cellsOf_37 : Tryz.prog.cellsOf 37 = 1 := by kernel_rfl
@[simp] theorem bytesOf_37 : Tryz.prog.bytesOf 37 = 0 := by kernel_rfl
@[simp] theorem slel_37 : slel Tryz.prog 37 = none := by kernel_rfl
@[simp] theorem isAggB_37 : isAggB Tryz.prog 37 = false := by kernel_rfl
@[simp] theorem tOk_37 : tOk Tryz.prog 37 = true := by kernel_rfl
@[simp] theorem arrOf_37 : arrOf Tryz.prog 37 = none := by kernel_rfl
@[simp] theorem strB_37 : strB Tryz.prog 37 = false := by kernel_rfl
@[simp] theorem bolB_37 : bolB Tryz.prog 37 = false := by kernel_rfl
@[simp] theorem mapB_37 : mapB Tryz.prog 37 = false := by kernel_rfl
@[simp] theorem intK_37 : intK Tryz.prog 37 = none := by kernel_rfl
@[simp] theorem zrow_37 : zrow Tryz.prog 37 = none := by kernel_rfl
@[simp] theorem bldOk_37 : bldOk Tryz.prog 37 = false := by kernel_rfl
@[simp] theorem tcs_37 : tcs Tryz.prog 37 = [37] := by kernel_rfl
@[simp] theorem srcT_37 : srcT Tryz.prog 37 = false := by kernel_rfl
@[simp] theorem zok_37 : zok Tryz.prog 37 = true := by kernel_rfl
@[simp] theorem flds_37 : flds Tryz.prog 37 = [] := by kernel_rfl
@[simp] theorem zeros_37 : zeros Tryz.prog 37 = some [Value.tuple { toList := [Value.agg { toList := [Value.int IntKind.u32 0, Value.int IntKind.u32 0, Value.int IntKind.u32 0, Value.int IntKind.u32 0, Value.int IntKind.i64 0, Value.int IntKind.i64 0] }, Value.agg { toList := [Value.int IntKind.u32 0, Value.int IntKind.u32 0, Value.int IntKind.u32 0, Value.int IntKind.u32 0, Value.int IntKind.i64 0, Value.slice none 0 0, Value.slice none 0 0] }, Value.int IntKind.i64 0] }] := by kernel_rfl
@[simp] theorem isinfo_37 : (Tryz.prog.info? 37).isSome = true := by kernel_rfl
@[simp] theorem isund_37 : (Tryz.prog.underlying 37).isSome = true := by kernel_rfl
@[simp] theorem cellsOf_42 : Tryz.prog.cellsOf 42 = 1 := by kernel_rfl
@[simp] theorem bytesOf_42 : Tryz.prog.bytesOf 42 = 0 := by kernel_rfl
@[simp] theorem slel_42 : slel Tryz.prog 42 = none := by kernel_rfl
@[simp] theorem isAggB_42 : isAggB Tryz.prog 42 = false := by kernel_rfl
@[simp] theorem tOk_42 : tOk Tryz.prog 42 = true := by kernel_rfl
@[simp] theorem arrOf_42 : arrOf Tryz.prog 42 = none := by kernel_rfl
@[simp] theorem strB_42 : strB Tryz.prog 42 = false := by kernel_rfl
@[simp] theorem bolB_42 : bolB Tryz.prog 42 = false := by kernel_rfl
@[simp] theorem mapB_42 : mapB Tryz.prog 42 = false := by kernel_rfl
@[simp] theorem intK_42 : intK Tryz.prog 42 = none := by kernel_rfl
@[simp] theorem zrow_42 : zrow Tryz.prog 42 = none := by kernel_rfl
@[simp] theorem bldOk_42 : bldOk Tryz.prog 42 = false := by kernel_rfl
@[simp] theorem tcs_42 : tcs Tryz.prog 42 = [42] := by kernel_rfl
@[simp] theorem srcT_42 : srcT Tryz.prog 42 = false := by kernel_rfl
@[simp] theorem zok_42 : zok Tryz.prog 42 = true := by kernel_rfl
@[simp] theorem flds_42 : flds Tryz.prog 42 = [] := by kernel_rfl
@[simp] theorem zeros_42 : zeros Tryz.prog 42 = some [Value.tuple { toList := [Value.string { data := { toList := [] } }, Value.int IntKind.i64 0] }] := by kernel_rfl
@[simp] theorem isinfo_42 : (Tryz.prog.info? 42).isSome = true := by kernel_rfl
@[simp] theorem isund_42 : (Tryz.prog.underlying 42).isSome = true := by kernel_rfl
@[simp] theorem cellsOf_44 : Tryz.prog.cellsOf 44 = 1 := by kernel_rfl
@[simp] theorem bytesOf_44 : Tryz.prog.bytesOf 44 = 24 := by kernel_rfl
@[simp] theorem slel_44 : slel Tryz.prog 44 = some 22 := by kernel_rfl
@[simp] theorem isAggB_44 : isAggB Tryz.prog 44 = false := by kernel_rfl
@[simp] theorem tOk_44 : tOk Tryz.prog 44 = true := by kernel_rfl
@[simp] theorem arrOf_44 : arrOf Tryz.prog 44 = none := by kernel_rfl
@[simp] theorem strB_44 : strB Tryz.prog 44 = false := by kernel_rfl
@[simp] theorem bolB_44 : bolB Tryz.prog 44 = false := by kernel_rfl
@[simp] theorem mapB_44 : mapB Tryz.prog 44 = false := by kernel_rfl
@[simp] theorem intK_44 : intK Tryz.prog 44 = none := by kernel_rfl
@[simp] theorem zrow_44 : zrow Tryz.prog 44 = some [AV.sl false 1 []] := by kernel_rfl
@[simp] theorem bldOk_44 : bldOk Tryz.prog 44 = false := by kernel_rfl
@[simp] theorem tcs_44 : tcs Tryz.prog 44 = [44] := by kernel_rfl
@[simp] theorem srcT_44 : srcT Tryz.prog 44 = true := by kernel_rfl
@[simp] theorem zok_44 : zok Tryz.prog 44 = true := by kernel_rfl
@[simp] theorem flds_44 : flds Tryz.prog 44 = [] := by kernel_rfl
@[simp] theorem zeros_44 : zeros Tryz.prog 44 = some [Value.slice none 0 0] := by kernel_rfl
@[simp] theorem isinfo_44 : (Tryz.prog.info? 44).isSome = true := by kernel_rfl
@[simp] theorem isund_44 : (Tryz.prog.underlying 44).isSome = true := by kernel_rfl
@[simp] theorem cellsOf_46 : Tryz.prog.cellsOf 46 = 1 := by kernel_rfl
@[simp] theorem bytesOf_46 : Tryz.prog.bytesOf 46 = 24 := by kernel_rfl
@[simp] theorem slel_46 : slel Tryz.prog 46 = some 9 := by kernel_rfl
@[simp] theorem isAggB_46 : isAggB Tryz.prog 46 = false := by kernel_rfl
@[simp] theorem tOk_46 : tOk Tryz.prog 46 = true := by kernel_rfl
@[simp] theorem arrOf_46 : arrOf Tryz.prog 46 = none := by kernel_rfl
@[simp] theorem strB_46 : strB Tryz.prog 46 = false := by kernel_rfl
@[simp] theorem bolB_46 : bolB Tryz.prog 46 = false := by kernel_rfl
@[simp] theorem mapB_46 : mapB Tryz.prog 46 = false := by kernel_rfl
@[simp] theorem intK_46 : intK Tryz.prog 46 = none := by kernel_rfl
@[simp] theorem zrow_46 : zrow Tryz.prog 46 = some [AV.sl false 1 []] := by kernel_rfl
@[simp] theorem bldOk_46 : bldOk Tryz.prog 46 = false := by kernel_rfl
@[simp] theorem tcs_46 : tcs Tryz.prog 46 = [46] := by kernel_rfl
@[simp] theorem srcT_46 : srcT Tryz.prog 46 = true := by kernel_rfl
@[simp] theorem zok_46 : zok Tryz.prog 46 = true := by kernel_rfl
@[simp] theorem flds_46 : flds Tryz.prog 46 = [] := by kernel_rfl
@[simp] theorem zeros_46 : zeros Tryz.prog 46 = some [Value.slice none 0 0] := by kernel_rfl
@[simp] theorem isinfo_46 : (Tryz.prog.info? 46).isSome = true := by kernel_rfl
@[simp] theorem isund_46 : (Tryz.prog.underlying 46).isSome = true := by kernel_rfl
@[simp] theorem cellsOf_48 : Tryz.prog.cellsOf 48 = 1 := by kernel_rfl
@[simp] theorem bytesOf_48 : Tryz.prog.bytesOf 48 = 24 := by kernel_rfl
@[simp] theorem slel_48 : slel Tryz.prog 48 = none := by kernel_rfl
@[simp] theorem isAggB_48 : isAggB Tryz.prog 48 = true := by kernel_rfl
@[simp] theorem tOk_48 : tOk Tryz.prog 48 = true := by kernel_rfl
@[simp] theorem arrOf_48 : arrOf Tryz.prog 48 = none := by kernel_rfl
@[simp] theorem strB_48 : strB Tryz.prog 48 = false := by kernel_rfl
@[simp] theorem bolB_48 : bolB Tryz.prog 48 = false := by kernel_rfl
@[simp] theorem mapB_48 : mapB Tryz.prog 48 = false := by kernel_rfl
@[simp] theorem intK_48 : intK Tryz.prog 48 = none := by kernel_rfl
@[simp] theorem zrow_48 : zrow Tryz.prog 48 = some [AV.sl false 1 []] := by kernel_rfl
@[simp] theorem bldOk_48 : bldOk Tryz.prog 48 = true := by kernel_rfl
@[simp] theorem tcs_48 : tcs Tryz.prog 48 = [46] := by kernel_rfl
@[simp] theorem srcT_48 : srcT Tryz.prog 48 = false := by kernel_rfl
@[simp] theorem zok_48 : zok Tryz.prog 48 = true := by kernel_rfl
@[simp] theorem flds_48 : flds Tryz.prog 48 = [(0, 1, 46)] := by kernel_rfl
@[simp] theorem zeros_48 : zeros Tryz.prog 48 = some [Value.slice none 0 0] := by kernel_rfl
@[simp] theorem isinfo_48 : (Tryz.prog.info? 48).isSome = true := by kernel_rfl
@[simp] theorem isund_48 : (Tryz.prog.underlying 48).isSome = true := by kernel_rfl
@[simp] theorem cellsOf_49 : Tryz.prog.cellsOf 49 = 1 := by kernel_rfl
@[simp] theorem bytesOf_49 : Tryz.prog.bytesOf 49 = 0 := by kernel_rfl
@[simp] theorem slel_49 : slel Tryz.prog 49 = none := by kernel_rfl
@[simp] theorem isAggB_49 : isAggB Tryz.prog 49 = false := by kernel_rfl
@[simp] theorem tOk_49 : tOk Tryz.prog 49 = true := by kernel_rfl
@[simp] theorem arrOf_49 : arrOf Tryz.prog 49 = none := by kernel_rfl
@[simp] theorem strB_49 : strB Tryz.prog 49 = false := by kernel_rfl
@[simp] theorem bolB_49 : bolB Tryz.prog 49 = false := by kernel_rfl
@[simp] theorem mapB_49 : mapB Tryz.prog 49 = false := by kernel_rfl
@[simp] theorem intK_49 : intK Tryz.prog 49 = none := by kernel_rfl
@[simp] theorem zrow_49 : zrow Tryz.prog 49 = none := by kernel_rfl
@[simp] theorem bldOk_49 : bldOk Tryz.prog 49 = false := by kernel_rfl
@[simp] theorem tcs_49 : tcs Tryz.prog 49 = [49] := by kernel_rfl
@[simp] theorem srcT_49 : srcT Tryz.prog 49 = false := by kernel_rfl
@[simp] theorem zok_49 : zok Tryz.prog 49 = true := by kernel_rfl
@[simp] theorem flds_49 : flds Tryz.prog 49 = [] := by kernel_rfl
@[simp] theorem zeros_49 : zeros Tryz.prog 49 = some [Value.tuple { toList := [Value.agg { toList := [Value.slice none 0 0] }, Value.int IntKind.i64 0] }] := by kernel_rfl
@[simp] theorem isinfo_49 : (Tryz.prog.info? 49).isSome = true := by kernel_rfl
@[simp] theorem isund_49 : (Tryz.prog.underlying 49).isSome = true := by kernel_rfl
@[simp] theorem cellsOf_52 : Tryz.prog.cellsOf 52 = 1 := by kernel_rfl
@[simp] theorem bytesOf_52 : Tryz.prog.bytesOf 52 = 0 := by kernel_rfl
@[simp] theorem slel_52 : slel Tryz.prog 52 = none := by kernel_rfl
@[simp] theorem isAggB_52 : isAggB Tryz.prog 52 = false := by kernel_rfl
@[simp] theorem tOk_52 : tOk Tryz.prog 52 = true := by kernel_rfl
@[simp] theorem arrOf_52 : arrOf Tryz.prog 52 = none := by kernel_rfl
@[simp] theorem strB_52 : strB Tryz.prog 52 = false := by kernel_rfl
@[simp] theorem bolB_52 : bolB Tryz.prog 52 = false := by kernel_rfl
@[simp] theorem mapB_52 : mapB Tryz.prog 52 = false := by kernel_rfl
@[simp] theorem intK_52 : intK Tryz.prog 52 = none := by kernel_rfl
@[simp] theorem zrow_52 : zrow Tryz.prog 52 = none := by kernel_rfl
@[simp] theorem bldOk_52 : bldOk Tryz.prog 52 = false := by kernel_rfl
@[simp] theorem tcs_52 : tcs Tryz.prog 52 = [52] := by kernel_rfl
@[simp] theorem srcT_52 : srcT Tryz.prog 52 = false := by kernel_rfl
@[simp] theorem zok_52 : zok Tryz.prog 52 = true := by kernel_rfl
@[simp] theorem flds_52 : flds Tryz.prog 52 = [] := by kernel_rfl
@[simp] theorem zeros_52 : zeros Tryz.prog 52 = some [Value.tuple { toList := [Value.agg { toList := [Value.int IntKind.u32 0, Value.int IntKind.u32 0, Value.int IntKind.u32 0, Value.int IntKind.u32 0, Value.int IntKind.i64 0, Value.int IntKind.i64 0] }, Value.agg { toList := [Value.int IntKind.i64 0, Value.slice none 0 0, Value.slice none 0 0] }, Value.int IntKind.i64 0] }] := by kernel_rfl
@[simp] theorem isinfo_52 : (Tryz.prog.info? 52).isSome = true := by kernel_rfl
@[simp] theorem isund_52 : (Tryz.prog.underlying 52).isSome = true := by kernel_rfl
@[simp] theorem cellsOf_55 : Tryz.prog.cellsOf 55 = 1 := by kernel_rfl
@[simp] theorem bytesOf_55 : Tryz.prog.bytesOf 55 = 0 := by kernel_rfl
@[simp] theorem slel_55 : slel Tryz.prog 55 = none := by kernel_rfl
@[simp] theorem isAggB_55 : isAggB Tryz.prog 55 = false := by kernel_rfl
@[simp] theorem tOk_55 : tOk Tryz.prog 55 = true := by kernel_rfl
@[simp] theorem arrOf_55 : arrOf Tryz.prog 55 = none := by kernel_rfl
@[simp] theorem strB_55 : strB Tryz.prog 55 = false := by kernel_rfl
@[simp] theorem bolB_55 : bolB Tryz.prog 55 = false := by kernel_rfl
@[simp] theorem mapB_55 : mapB Tryz.prog 55 = false := by kernel_rfl
@[simp] theorem intK_55 : intK Tryz.prog 55 = none := by kernel_rfl
@[simp] theorem zrow_55 : zrow Tryz.prog 55 = none := by kernel_rfl
@[simp] theorem bldOk_55 : bldOk Tryz.prog 55 = false := by kernel_rfl
@[simp] theorem tcs_55 : tcs Tryz.prog 55 = [55] := by kernel_rfl
@[simp] theorem srcT_55 : srcT Tryz.prog 55 = false := by kernel_rfl
@[simp] theorem zok_55 : zok Tryz.prog 55 = true := by kernel_rfl
@[simp] theorem flds_55 : flds Tryz.prog 55 = [] := by kernel_rfl
@[simp] theorem zeros_55 : zeros Tryz.prog 55 = some [Value.tuple { toList := [Value.agg { toList := [Value.int IntKind.u32 0, Value.int IntKind.u32 0, Value.int IntKind.u32 0, Value.int IntKind.u32 0] }, Value.int IntKind.i64 0] }] := by kernel_rfl
@[simp] theorem isinfo_55 : (Tryz.prog.info? 55).isSome = true := by kernel_rfl
@[simp] theorem isund_55 : (Tryz.prog.underlying 55).isSome = true := by kernel_rfl
@[simp] theorem cellsOf_59 : Tryz.prog.cellsOf 59 = 1 := by kernel_rfl
@[simp] theorem bytesOf_59 : Tryz.prog.bytesOf 59 = 0 := by kernel_rfl
@[simp] theorem slel_59 : slel Tryz.prog 59 = none := by kernel_rfl
@[simp] theorem isAggB_59 : isAggB Tryz.prog 59 = false := by kernel_rfl
@[simp] theorem tOk_59 : tOk Tryz.prog 59 = true := by kernel_rfl
@[simp] theorem arrOf_59 : arrOf Tryz.prog 59 = none := by kernel_rfl
@[simp] theorem strB_59 : strB Tryz.prog 59 = false := by kernel_rfl
@[simp] theorem bolB_59 : bolB Tryz.prog 59 = false := by kernel_rfl
@[simp] theorem mapB_59 : mapB Tryz.prog 59 = false := by kernel_rfl
@[simp] theorem intK_59 : intK Tryz.prog 59 = none := by kernel_rfl
@[simp] theorem zrow_59 : zrow Tryz.prog 59 = none := by kernel_rfl
@[simp] theorem bldOk_59 : bldOk Tryz.prog 59 = false := by kernel_rfl
@[simp] theorem tcs_59 : tcs Tryz.prog 59 = [59] := by kernel_rfl
@[simp] theorem srcT_59 : srcT Tryz.prog 59 = false := by kernel_rfl
@[simp] theorem zok_59 : zok Tryz.prog 59 = true := by kernel_rfl
@[simp] theorem flds_59 : flds Tryz.prog 59 = [] := by kernel_rfl
@[simp] theorem zeros_59 : zeros Tryz.prog 59 = some [Value.tuple { toList := [Value.slice none 0 0, Value.int IntKind.i64 0] }] := by kernel_rfl
@[simp] theorem isinfo_59 : (Tryz.prog.info? 59).isSome = true := by kernel_rfl
@[simp] theorem isund_59 : (Tryz.prog.underlying 59).isSome = true := by kernel_rfl
@[simp] theorem cellsOf_63 : Tryz.prog.cellsOf 63 = 2 := by kernel_rfl
@[simp] theorem bytesOf_63 : Tryz.prog.bytesOf 63 = 32 := by kernel_rfl
@[simp] theorem slel_63 : slel Tryz.prog 63 = none := by kernel_rfl
@[simp] theorem isAggB_63 : isAggB Tryz.prog 63 = true := by kernel_rfl
@[simp] theorem tOk_63 : tOk Tryz.prog 63 = true := by kernel_rfl
@[simp] theorem arrOf_63 : arrOf Tryz.prog 63 = none := by kernel_rfl
@[simp] theorem strB_63 : strB Tryz.prog 63 = false := by kernel_rfl
@[simp] theorem bolB_63 : bolB Tryz.prog 63 = false := by kernel_rfl
@[simp] theorem mapB_63 : mapB Tryz.prog 63 = false := by kernel_rfl
@[simp] theorem intK_63 : intK Tryz.prog 63 = none := by kernel_rfl
@[simp] theorem zrow_63 : zrow Tryz.prog 63 = some [AV.sl false 1 [], AV.sc (Value.int IntKind.i64 0)] := by kernel_rfl
@[simp] theorem bldOk_63 : bldOk Tryz.prog 63 = true := by kernel_rfl
@[simp] theorem tcs_63 : tcs Tryz.prog 63 = [44, 3] := by kernel_rfl
@[simp] theorem srcT_63 : srcT Tryz.prog 63 = false := by kernel_rfl
@[simp] theorem zok_63 : zok Tryz.prog 63 = true := by kernel_rfl
@[simp] theorem flds_63 : flds Tryz.prog 63 = [(0, 1, 44), (1, 1, 3)] := by kernel_rfl
@[simp] theorem zeros_63 : zeros Tryz.prog 63 = some [Value.slice none 0 0, Value.int IntKind.i64 0] := by kernel_rfl
@[simp] theorem isinfo_63 : (Tryz.prog.info? 63).isSome = true := by kernel_rfl
@[simp] theorem isund_63 : (Tryz.prog.underlying 63).isSome = true := by kernel_rfl
@[simp] theorem cellsOf_64 : Tryz.prog.cellsOf 64 = 1 := by kernel_rfl
@[simp] theorem bytesOf_64 : Tryz.prog.bytesOf 64 = 0 := by kernel_rfl
@[simp] theorem slel_64 : slel Tryz.prog 64 = none := by kernel_rfl
@[simp] theorem isAggB_64 : isAggB Tryz.prog 64 = false := by kernel_rfl
@[simp] theorem tOk_64 : tOk Tryz.prog 64 = true := by kernel_rfl
@[simp] theorem arrOf_64 : arrOf Tryz.prog 64 = none := by kernel_rfl
@[simp] theorem strB_64 : strB Tryz.prog 64 = false := by kernel_rfl
@[simp] theorem bolB_64 : bolB Tryz.prog 64 = false := by kernel_rfl
@[simp] theorem mapB_64 : mapB Tryz.prog 64 = false := by kernel_rfl
@[simp] theorem intK_64 : intK Tryz.prog 64 = none := by kernel_rfl
@[simp] theorem zrow_64 : zrow Tryz.prog 64 = none := by kernel_rfl
@[simp] theorem bldOk_64 : bldOk Tryz.prog 64 = false := by kernel_rfl
@[simp] theorem tcs_64 : tcs Tryz.prog 64 = [64] := by kernel_rfl
@[simp] theorem srcT_64 : srcT Tryz.prog 64 = false := by kernel_rfl
@[simp] theorem zok_64 : zok Tryz.prog 64 = true := by kernel_rfl
@[simp] theorem flds_64 : flds Tryz.prog 64 = [] := by kernel_rfl
@[simp] theorem zeros_64 : zeros Tryz.prog 64 = some [Value.tuple { toList := [Value.agg { toList := [Value.slice none 0 0, Value.int IntKind.i64 0] }, Value.int IntKind.i64 0] }] := by kernel_rfl
@[simp] theorem isinfo_64 : (Tryz.prog.info? 64).isSome = true := by kernel_rfl
@[simp] theorem isund_64 : (Tryz.prog.underlying 64).isSome = true := by kernel_rfl
@[simp] theorem cellsOf_67 : Tryz.prog.cellsOf 67 = 3 := by kernel_rfl
@[simp] theorem bytesOf_67 : Tryz.prog.bytesOf 67 = 32 := by kernel_rfl
@[simp] theorem slel_67 : slel Tryz.prog 67 = none := by kernel_rfl
@[simp] theorem isAggB_67 : isAggB Tryz.prog 67 = true := by kernel_rfl
@[simp] theorem tOk_67 : tOk Tryz.prog 67 = true := by kernel_rfl
@[simp] theorem arrOf_67 : arrOf Tryz.prog 67 = none := by kernel_rfl
@[simp] theorem strB_67 : strB Tryz.prog 67 = false := by kernel_rfl
@[simp] theorem bolB_67 : bolB Tryz.prog 67 = false := by kernel_rfl
@[simp] theorem mapB_67 : mapB Tryz.prog 67 = false := by kernel_rfl
@[simp] theorem intK_67 : intK Tryz.prog 67 = none := by kernel_rfl
@[simp] theorem zrow_67 : zrow Tryz.prog 67 = some [AV.sc (Value.int IntKind.i64 0), AV.sc (Value.string { data := { toList := [] } }), AV.sc (Value.int IntKind.i64 0)] := by kernel_rfl
@[simp] theorem bldOk_67 : bldOk Tryz.prog 67 = true := by kernel_rfl
@[simp] theorem tcs_67 : tcs Tryz.prog 67 = [3, 9, 3] := by kernel_rfl
@[simp] theorem srcT_67 : srcT Tryz.prog 67 = false := by kernel_rfl
@[simp] theorem zok_67 : zok Tryz.prog 67 = true := by kernel_rfl
@[simp] theorem flds_67 : flds Tryz.prog 67 = [(0, 1, 3), (1, 1, 9), (2, 1, 3)] := by kernel_rfl
@[simp] theorem zeros_67 : zeros Tryz.prog 67 = some [Value.int IntKind.i64 0, Value.string { data := { toList := [] } }, Value.int IntKind.i64 0] := by kernel_rfl
@[simp] theorem isinfo_67 : (Tryz.prog.info? 67).isSome = true := by kernel_rfl
@[simp] theorem isund_67 : (Tryz.prog.underlying 67).isSome = true := by kernel_rfl
@[simp] theorem cellsOf_70 : Tryz.prog.cellsOf 70 = 1 := by kernel_rfl
@[simp] theorem bytesOf_70 : Tryz.prog.bytesOf 70 = 0 := by kernel_rfl
@[simp] theorem slel_70 : slel Tryz.prog 70 = none := by kernel_rfl
@[simp] theorem isAggB_70 : isAggB Tryz.prog 70 = false := by kernel_rfl
@[simp] theorem tOk_70 : tOk Tryz.prog 70 = true := by kernel_rfl
@[simp] theorem arrOf_70 : arrOf Tryz.prog 70 = none := by kernel_rfl
@[simp] theorem strB_70 : strB Tryz.prog 70 = false := by kernel_rfl
@[simp] theorem bolB_70 : bolB Tryz.prog 70 = false := by kernel_rfl
@[simp] theorem mapB_70 : mapB Tryz.prog 70 = false := by kernel_rfl
@[simp] theorem intK_70 : intK Tryz.prog 70 = none := by kernel_rfl
@[simp] theorem zrow_70 : zrow Tryz.prog 70 = none := by kernel_rfl
@[simp] theorem bldOk_70 : bldOk Tryz.prog 70 = false := by kernel_rfl
@[simp] theorem tcs_70 : tcs Tryz.prog 70 = [70] := by kernel_rfl
@[simp] theorem srcT_70 : srcT Tryz.prog 70 = false := by kernel_rfl
@[simp] theorem zok_70 : zok Tryz.prog 70 = true := by kernel_rfl
@[simp] theorem flds_70 : flds Tryz.prog 70 = [] := by kernel_rfl
@[simp] theorem zeros_70 : zeros Tryz.prog 70 = some [Value.tuple { toList := [Value.agg { toList := [Value.int IntKind.i64 0, Value.slice none 0 0, Value.slice none 0 0] }, Value.int IntKind.i64 0] }] := by kernel_rfl
@[simp] theorem isinfo_70 : (Tryz.prog.info? 70).isSome = true := by kernel_rfl
@[simp] theorem isund_70 : (Tryz.prog.underlying 70).isSome = true := by kernel_rfl
@[simp] theorem cellsOf_78 : Tryz.prog.cellsOf 78 = 1 := by kernel_rfl
@[simp] theorem bytesOf_78 : Tryz.prog.bytesOf 78 = 0 := by kernel_rfl
@[simp] theorem slel_78 : slel Tryz.prog 78 = none := by kernel_rfl
@[simp] theorem isAggB_78 : isAggB Tryz.prog 78 = false := by kernel_rfl
@[simp] theorem tOk_78 : tOk Tryz.prog 78 = true := by kernel_rfl
@[simp] theorem arrOf_78 : arrOf Tryz.prog 78 = none := by kernel_rfl
@[simp] theorem strB_78 : strB Tryz.prog 78 = false := by kernel_rfl
@[simp] theorem bolB_78 : bolB Tryz.prog 78 = false := by kernel_rfl
@[simp] theorem mapB_78 : mapB Tryz.prog 78 = false := by kernel_rfl
@[simp] theorem intK_78 : intK Tryz.prog 78 = none := by kernel_rfl
@[simp] theorem zrow_78 : zrow Tryz.prog 78 = none := by kernel_rfl
@[simp] theorem bldOk_78 : bldOk Tryz.prog 78 = false := by kernel_rfl
@[simp] theorem tcs_78 : tcs Tryz.prog 78 = [78] := by kernel_rfl
@[simp] theorem srcT_78 : srcT Tryz.prog 78 = false := by kernel_rfl
@[simp] theorem zok_78 : zok Tryz.prog 78 = true := by kernel_rfl
@[simp] theorem flds_78 : flds Tryz.prog 78 = [] := by kernel_rfl
@[simp] theorem zeros_78 : zeros Tryz.prog 78 = some [Value.tuple { toList := [Value.agg { toList := [Value.int IntKind.u32 0, Value.int IntKind.u32 0, Value.int IntKind.u32 0, Value.int IntKind.u32 0] }, Value.bool false] }] := by kernel_rfl
@[simp] theorem isinfo_78 : (Tryz.prog.info? 78).isSome = true := by kernel_rfl
@[simp] theorem isund_78 : (Tryz.prog.underlying 78).isSome = true := by kernel_rfl
@[simp] theorem cellsOf_83 : Tryz.prog.cellsOf 83 = 4 := by kernel_rfl
@[simp] theorem bytesOf_83 : Tryz.prog.bytesOf 83 = 32 := by kernel_rfl
@[simp] theorem slel_83 : slel Tryz.prog 83 = none := by kernel_rfl
@[simp] theorem isAggB_83 : isAggB Tryz.prog 83 = true := by kernel_rfl
@[simp] theorem tOk_83 : tOk Tryz.prog 83 = true := by kernel_rfl
@[simp] theorem arrOf_83 : arrOf Tryz.prog 83 = none := by kernel_rfl
@[simp] theorem strB_83 : strB Tryz.prog 83 = false := by kernel_rfl
@[simp] theorem bolB_83 : bolB Tryz.prog 83 = false := by kernel_rfl
@[simp] theorem mapB_83 : mapB Tryz.prog 83 = false := by kernel_rfl
@[simp] theorem intK_83 : intK Tryz.prog 83 = none := by kernel_rfl
@[simp] theorem zrow_83 : zrow Tryz.prog 83 = some [AV.sc (Value.int IntKind.i64 0), AV.sc (Value.int IntKind.i64 0), AV.sc (Value.int IntKind.i64 0), AV.sc (Value.int IntKind.i64 0)] := by kernel_rfl
@[simp] theorem bldOk_83 : bldOk Tryz.prog 83 = true := by kernel_rfl
@[simp] theorem tcs_83 : tcs Tryz.prog 83 = [3, 3, 3, 3] := by kernel_rfl
@[simp] theorem srcT_83 : srcT Tryz.prog 83 = false := by kernel_rfl
@[simp] theorem zok_83 : zok Tryz.prog 83 = true := by kernel_rfl
@[simp] theorem flds_83 : flds Tryz.prog 83 = [(0, 1, 3), (1, 1, 3), (2, 1, 3), (3, 1, 3)] := by kernel_rfl
@[simp] theorem zeros_83 : zeros Tryz.prog 83 = some [Value.int IntKind.i64 0, Value.int IntKind.i64 0, Value.int IntKind.i64 0, Value.int IntKind.i64 0] := by kernel_rfl
@[simp] theorem isinfo_83 : (Tryz.prog.info? 83).isSome = true := by kernel_rfl
@[simp] theorem isund_83 : (Tryz.prog.underlying 83).isSome = true := by kernel_rfl
@[simp] theorem cellsOf_86 : Tryz.prog.cellsOf 86 = 1 := by kernel_rfl
@[simp] theorem bytesOf_86 : Tryz.prog.bytesOf 86 = 8 := by kernel_rfl
@[simp] theorem slel_86 : slel Tryz.prog 86 = none := by kernel_rfl
@[simp] theorem isAggB_86 : isAggB Tryz.prog 86 = false := by kernel_rfl
@[simp] theorem tOk_86 : tOk Tryz.prog 86 = true := by kernel_rfl
@[simp] theorem arrOf_86 : arrOf Tryz.prog 86 = none := by kernel_rfl
@[simp] theorem strB_86 : strB Tryz.prog 86 = false := by kernel_rfl
@[simp] theorem bolB_86 : bolB Tryz.prog 86 = false := by kernel_rfl
@[simp] theorem mapB_86 : mapB Tryz.prog 86 = false := by kernel_rfl
@[simp] theorem intK_86 : intK Tryz.prog 86 = none := by kernel_rfl
@[simp] theorem zrow_86 : zrow Tryz.prog 86 = some [AV.sc Value.nilFunc] := by kernel_rfl
@[simp] theorem bldOk_86 : bldOk Tryz.prog 86 = false := by kernel_rfl
@[simp] theorem tcs_86 : tcs Tryz.prog 86 = [86] := by kernel_rfl
@[simp] theorem srcT_86 : srcT Tryz.prog 86 = false := by kernel_rfl
@[simp] theorem zok_86 : zok Tryz.prog 86 = true := by kernel_rfl
@[simp] theorem flds_86 : flds Tryz.prog 86 = [] := by kernel_rfl
@[simp] theorem zeros_86 : zeros Tryz.prog 86 = some [Value.nilFunc] := by kernel_rfl
@[simp] theorem isinfo_86 : (Tryz.prog.info? 86).isSome = true := by kernel_rfl
@[simp] theorem isund_86 : (Tryz.prog.underlying 86).isSome = true := by kernel_rfl
@[simp] theorem cellsOf_87 : Tryz.prog.cellsOf 87 = 1 := by kernel_rfl
@[simp] theorem bytesOf_87 : Tryz.prog.bytesOf 87 = 8 := by kernel_rfl
@[simp] theorem slel_87 : slel Tryz.prog 87 = none := by kernel_rfl
@[simp] theorem isAggB_87 : isAggB Tryz.prog 87 = false := by kernel_rfl
@[simp] theorem tOk_87 : tOk Tryz.prog 87 = true := by kernel_rfl
@[simp] theorem arrOf_87 : arrOf Tryz.prog 87 = none := by kernel_rfl
@[simp] theorem strB_87 : strB Tryz.prog 87 = false := by kernel_rfl
@[simp] theorem bolB_87 : bolB Tryz.prog 87 = false := by kernel_rfl
@[simp] theorem mapB_87 : mapB Tryz.prog 87 = false := by kernel_rfl
@[simp] theorem intK_87 : intK Tryz.prog 87 = none := by kernel_rfl
@[simp] theorem zrow_87 : zrow Tryz.prog 87 = some [AV.sc Value.nilFunc] := by kernel_rfl
@[simp] theorem bldOk_87 : bldOk Tryz.prog 87 = false := by kernel_rfl
@[simp] theorem tcs_87 : tcs Tryz.prog 87 = [87] := by kernel_rfl
@[simp] theorem srcT_87 : srcT Tryz.prog 87 = false := by kernel_rfl
@[simp] theorem zok_87 : zok Tryz.prog 87 = true := by kernel_rfl
@[simp] theorem flds_87 : flds Tryz.prog 87 = [] := by kernel_rfl
@[simp] theorem zeros_87 : zeros Tryz.prog 87 = some [Value.nilFunc] := by kernel_rfl
@[simp] theorem isinfo_87 : (Tryz.prog.info? 87).isSome = true := by kernel_rfl
@[simp] theorem isund_87 : (Tryz.prog.underlying 87).isSome = true := by kernel_rfl
@[simp] theorem cellsOf_89 : Tryz.prog.cellsOf 89 = 1 := by kernel_rfl
@[simp] theorem bytesOf_89 : Tryz.prog.bytesOf 89 = 8 := by kernel_rfl
@[simp] theorem slel_89 : slel Tryz.prog 89 = none := by kernel_rfl
@[simp] theorem isAggB_89 : isAggB Tryz.prog 89 = false := by kernel_rfl
@[simp] theorem tOk_89 : tOk Tryz.prog 89 = true := by kernel_rfl
@[simp] theorem arrOf_89 : arrOf Tryz.prog 89 = none := by kernel_rfl
@[simp] theorem strB_89 : strB Tryz.prog 89 = false := by kernel_rfl
@[simp] theorem bolB_89 : bolB Tryz.prog 89 = false := by kernel_rfl
@[simp] theorem mapB_89 : mapB Tryz.prog 89 = false := by kernel_rfl
@[simp] theorem intK_89 : intK Tryz.prog 89 = some IntKind.u64 := by kernel_rfl
@[simp] theorem zrow_89 : zrow Tryz.prog 89 = some [AV.sc (Value.int IntKind.u64 0)] := by kernel_rfl
@[simp] theorem bldOk_89 : bldOk Tryz.prog 89 = false := by kernel_rfl
@[simp] theorem tcs_89 : tcs Tryz.prog 89 = [89] := by kernel_rfl
@[simp] theorem srcT_89 : srcT Tryz.prog 89 = false := by kernel_rfl
@[simp] theorem zok_89 : zok Tryz.prog 89 = true := by kernel_rfl
@[simp] theorem flds_89 : flds Tryz.prog 89 = [] := by kernel_rfl
@[simp] theorem zeros_89 : zeros Tryz.prog 89 = some [Value.int IntKind.u64 0] := by kernel_rfl
@[simp] theorem isinfo_89 : (Tryz.prog.info? 89).isSome = true := by kernel_rfl
@[simp] theorem isund_89 : (Tryz.prog.underlying 89).isSome = true := by kernel_rfl
@[simp] theorem cellsOf_91 : Tryz.prog.cellsOf 91 = 16 := by kernel_rfl
@[simp] theorem bytesOf_91 : Tryz.prog.bytesOf 91 = 64 := by kernel_rfl
@[simp] theorem slel_91 : slel Tryz.prog 91 = none := by kernel_rfl
@[simp] theorem isAggB_91 : isAggB Tryz.prog 91 = true := by kernel_rfl
@[simp] theorem tOk_91 : tOk Tryz.prog 91 = true := by kernel_rfl
@[simp] theorem arrOf_91 : arrOf Tryz.prog 91 = some (16, 22) := by kernel_rfl
@[simp] theorem strB_91 : strB Tryz.prog 91 = false := by kernel_rfl
@[simp] theorem bolB_91 : bolB Tryz.prog 91 = false := by kernel_rfl
@[simp] theorem mapB_91 : mapB Tryz.prog 91 = false := by kernel_rfl
@[simp] theorem intK_91 : intK Tryz.prog 91 = none := by kernel_rfl
@[simp] theorem zrow_91 : zrow Tryz.prog 91 = some [AV.sc (Value.int IntKind.u32 0), AV.sc (Value.int IntKind.u32 0), AV.sc (Value.int IntKind.u32 0), AV.sc (Value.int IntKind.u32 0), AV.sc (Value.int IntKind.u32 0), AV.sc (Value.int IntKind.u32 0), AV.sc (Value.int IntKind.u32 0), AV.sc (Value.int IntKind.u32 0), AV.sc (Value.int IntKind.u32 0), AV.sc (Value.int IntKind.u32 0), AV.sc (Value.int IntKind.u32 0), AV.sc (Value.int IntKind.u32 0), AV.sc (Value.int IntKind.u32 0), AV.sc (Value.int IntKind.u32 0), AV.sc (Value.int IntKind.u32 0), AV.sc (Value.int IntKind.u32 0)] := by kernel_rfl
@[simp] theorem bldOk_91 : bldOk Tryz.prog 91 = true := by kernel_rfl
@[simp] theorem tcs_91 : tcs Tryz.prog 91 = [22, 22, 22, 22, 22, 22, 22, 22, 22, 22, 22, 22, 22, 22, 22, 22] := by kernel_rfl
@[simp] theorem srcT_91 : srcT Tryz.prog 91 = false := by kernel_rfl
@[simp] theorem zok_91 : zok Tryz.prog 91 = true := by kernel_rfl
@[simp] theorem flds_91 : flds Tryz.prog 91 = [] := by kernel_rfl
@[simp] theorem zeros_91 : zeros Tryz.prog 91 = some [Value.int IntKind.u32 0, Value.int IntKind.u32 0, Value.int IntKind.u32 0, Value.int IntKind.u32 0, Value.int IntKind.u32 0, Value.int IntKind.u32 0, Value.int IntKind.u32 0, Value.int IntKind.u32 0, Value.int IntKind.u32 0, Value.int IntKind.u32 0, Value.int IntKind.u32 0, Value.int IntKind.u32 0, Value.int IntKind.u32 0, Value.int IntKind.u32 0, Value.int IntKind.u32 0, Value.int IntKind.u32 0] := by kernel_rfl
@[simp] theorem isinfo_91 : (Tryz.prog.info? 91).isSome = true := by kernel_rfl
@[simp] theorem isund_91 : (Tryz.prog.underlying 91).isSome = true := by kernel_rfl
@[simp] theorem cellsOf_93 : Tryz.prog.cellsOf 93 = 22 := by kernel_rfl
@[simp] theorem bytesOf_93 : Tryz.prog.bytesOf 93 = 136 := by kernel_rfl
@[simp] theorem slel_93 : slel Tryz.prog 93 = none := by kernel_rfl
@[simp] theorem isAggB_93 : isAggB Tryz.prog 93 = true := by kernel_rfl
@[simp] theorem tOk_93 : tOk Tryz.prog 93 = true := by kernel_rfl
@[simp] theorem arrOf_93 : arrOf Tryz.prog 93 = none := by kernel_rfl
@[simp] theorem strB_93 : strB Tryz.prog 93 = false := by kernel_rfl
@[simp] theorem bolB_93 : bolB Tryz.prog 93 = false := by kernel_rfl
@[simp] theorem mapB_93 : mapB Tryz.prog 93 = false := by kernel_rfl
@[simp] theorem intK_93 : intK Tryz.prog 93 = none := by kernel_rfl
@[simp] theorem zrow_93 : zrow Tryz.prog 93 = some [AV.sc (Value.int IntKind.i64 0), AV.sc (Value.int IntKind.u32 0), AV.sc (Value.int IntKind.u32 0), AV.sc (Value.int IntKind.u32 0), AV.sc (Value.int IntKind.u32 0), AV.sc (Value.int IntKind.u32 0), AV.sc (Value.int IntKind.u32 0), AV.sc (Value.int IntKind.u32 0), AV.sc (Value.int IntKind.u32 0), AV.sc (Value.int IntKind.u32 0), AV.sc (Value.int IntKind.u32 0), AV.sc (Value.int IntKind.u32 0), AV.sc (Value.int IntKind.u32 0), AV.sc (Value.int IntKind.u32 0), AV.sc (Value.int IntKind.u32 0), AV.sc (Value.int IntKind.u32 0), AV.sc (Value.int IntKind.u32 0), AV.sl false 1 [], AV.sc (Value.int IntKind.i64 0), AV.sc (Value.string { data := { toList := [] } }), AV.sc (Value.int IntKind.i64 0), AV.sc (Value.int IntKind.i64 0)] := by kernel_rfl
@[simp] theorem bldOk_93 : bldOk Tryz.prog 93 = true := by kernel_rfl
@[simp] theorem tcs_93 : tcs Tryz.prog 93 = [3, 22, 22, 22, 22, 22, 22, 22, 22, 22, 22, 22, 22, 22, 22, 22, 22, 44, 3, 9, 3, 3] := by kernel_rfl
@[simp] theorem srcT_93 : srcT Tryz.prog 93 = false := by kernel_rfl
@[simp] theorem zok_93 : zok Tryz.prog 93 = true := by kernel_rfl
@[simp] theorem flds_93 : flds Tryz.prog 93 = [(0, 1, 3), (1, 16, 91), (17, 1, 44), (18, 1, 3), (19, 1, 9), (20, 1, 3), (21, 1, 3)] := by kernel_rfl
@[simp] theorem zeros_93 : zeros Tryz.prog 93 = some [Value.int IntKind.i64 0, Value.int IntKind.u32 0, Value.int IntKind.u32 0, Value.int IntKind.u32 0, Value.int IntKind.u32 0, Value.int IntKind.u32 0, Value.int IntKind.u32 0, Value.int IntKind.u32 0, Value.int IntKind.u32 0, Value.int IntKind.u32 0, Value.int IntKind.u32 0, Value.int IntKind.u32 0, Value.int IntKind.u32 0, Value.int IntKind.u32 0, Value.int IntKind.u32 0, Value.int IntKind.u32 0, Value.int IntKind.u32 0, Value.slice none 0 0, Value.int IntKind.i64 0, Value.string { data := { toList := [] } }, Value.int IntKind.i64 0, Value.int IntKind.i64 0] := by kernel_rfl
@[simp] theorem isinfo_93 : (Tryz.prog.info? 93).isSome = true := by kernel_rfl
@[simp] theorem isund_93 : (Tryz.prog.underlying 93).isSome = true := by kernel_rfl
@[simp] theorem cellsOf_96 : Tryz.prog.cellsOf 96 = 1 := by kernel_rfl
@[simp] theorem bytesOf_96 : Tryz.prog.bytesOf 96 = 0 := by kernel_rfl
@[simp] theorem slel_96 : slel Tryz.prog 96 = none := by kernel_rfl
@[simp] theorem isAggB_96 : isAggB Tryz.prog 96 = false := by kernel_rfl
@[simp] theorem tOk_96 : tOk Tryz.prog 96 = true := by kernel_rfl
@[simp] theorem arrOf_96 : arrOf Tryz.prog 96 = none := by kernel_rfl
@[simp] theorem strB_96 : strB Tryz.prog 96 = false := by kernel_rfl
@[simp] theorem bolB_96 : bolB Tryz.prog 96 = false := by kernel_rfl
@[simp] theorem mapB_96 : mapB Tryz.prog 96 = false := by kernel_rfl
@[simp] theorem intK_96 : intK Tryz.prog 96 = none := by kernel_rfl
@[simp] theorem zrow_96 : zrow Tryz.prog 96 = none := by kernel_rfl
@[simp] theorem bldOk_96 : bldOk Tryz.prog 96 = false := by kernel_rfl
@[simp] theorem tcs_96 : tcs Tryz.prog 96 = [96] := by kernel_rfl
@[simp] theorem srcT_96 : srcT Tryz.prog 96 = false := by kernel_rfl
@[simp] theorem zok_96 : zok Tryz.prog 96 = true := by kernel_rfl
@[simp] theorem flds_96 : flds Tryz.prog 96 = [] := by kernel_rfl
@[simp] theorem zeros_96 : zeros Tryz.prog 96 = some [Value.tuple { toList := [Value.slice none 0 0, Value.int IntKind.i64 0] }] := by kernel_rfl
@[simp] theorem isinfo_96 : (Tryz.prog.info? 96).isSome = true := by kernel_rfl
@[simp] theorem isund_96 : (Tryz.prog.underlying 96).isSome = true := by kernel_rfl
@[simp] theorem cellsOf_99 : Tryz.prog.cellsOf 99 = 1 := by kernel_rfl
@[simp] theorem bytesOf_99 : Tryz.prog.bytesOf 99 = 8 := by kernel_rfl
@[simp] theorem slel_99 : slel Tryz.prog 99 = none := by kernel_rfl
@[simp] theorem isAggB_99 : isAggB Tryz.prog 99 = false := by kernel_rfl
@[simp] theorem tOk_99 : tOk Tryz.prog 99 = true := by kernel_rfl
@[simp] theorem arrOf_99 : arrOf Tryz.prog 99 = none := by kernel_rfl
@[simp] theorem strB_99 : strB Tryz.prog 99 = false := by kernel_rfl
@[simp] theorem bolB_99 : bolB Tryz.prog 99 = false := by kernel_rfl
@[simp] theorem mapB_99 : mapB Tryz.prog 99 = false := by kernel_rfl
@[simp] theorem intK_99 : intK Tryz.prog 99 = none := by kernel_rfl
@[simp] theorem zrow_99 : zrow Tryz.prog 99 = some [AV.sc Value.nilFunc] := by kernel_rfl
@[simp] theorem bldOk_99 : bldOk Tryz.prog 99 = false := by kernel_rfl
@[simp] theorem tcs_99 : tcs Tryz.prog 99 = [99] := by kernel_rfl
@[simp] theorem srcT_99 : srcT Tryz.prog 99 = false := by kernel_rfl
@[simp] theorem zok_99 : zok Tryz.prog 99 = true := by kernel_rfl
@[simp] theorem flds_99 : flds Tryz.prog 99 = [] := by kernel_rfl
@[simp] theorem zeros_99 : zeros Tryz.prog 99 = some [Value.nilFunc] := by kernel_rfl
@[simp] theorem isinfo_99 : (Tryz.prog.info? 99).isSome = true := by kernel_rfl
@[simp] theorem isund_99 : (Tryz.prog.underlying 99).isSome = true := by kernel_rfl
@[simp] theorem cellsOf_100 : Tryz.prog.cellsOf 100 = 1 := by kernel_rfl
@[simp] theorem bytesOf_100 : Tryz.prog.bytesOf 100 = 24 := by kernel_rfl
@[simp] theorem slel_100 : slel Tryz.prog 100 = some 5 := by kernel_rfl
@[simp] theorem isAggB_100 : isAggB Tryz.prog 100 = false := by kernel_rfl
@[simp] theorem tOk_100 : tOk Tryz.prog 100 = true := by kernel_rfl
@[simp] theorem arrOf_100 : arrOf Tryz.prog 100 = none := by kernel_rfl
@[simp] theorem strB_100 : strB Tryz.prog 100 = false := by kernel_rfl
@[simp] theorem bolB_100 : bolB Tryz.prog 100 = false := by kernel_rfl
@[simp] theorem mapB_100 : mapB Tryz.prog 100 = false := by kernel_rfl
@[simp] theorem intK_100 : intK Tryz.prog 100 = none := by kernel_rfl
@[simp] theorem zrow_100 : zrow Tryz.prog 100 = some [AV.sl false 1 []] := by kernel_rfl
@[simp] theorem bldOk_100 : bldOk Tryz.prog 100 = false := by kernel_rfl
@[simp] theorem tcs_100 : tcs Tryz.prog 100 = [100] := by kernel_rfl
@[simp] theorem srcT_100 : srcT Tryz.prog 100 = true := by kernel_rfl
@[simp] theorem zok_100 : zok Tryz.prog 100 = true := by kernel_rfl
@[simp] theorem flds_100 : flds Tryz.prog 100 = [] := by kernel_rfl
@[simp] theorem zeros_100 : zeros Tryz.prog 100 = some [Value.slice none 0 0] := by kernel_rfl
@[simp] theorem isinfo_100 : (Tryz.prog.info? 100).isSome = true := by kernel_rfl
@[simp] theorem isund_100 : (Tryz.prog.underlying 100).isSome = true := by kernel_rfl
@[simp] theorem cellsOf_101 : Tryz.prog.cellsOf 101 = 1 := by kernel_rfl
@[simp] theorem bytesOf_101 : Tryz.prog.bytesOf 101 = 8 := by kernel_rfl
@[simp] theorem slel_101 : slel Tryz.prog 101 = none := by kernel_rfl
@[simp] theorem isAggB_101 : isAggB Tryz.prog 101 = false := by kernel_rfl
@[simp] theorem tOk_101 : tOk Tryz.prog 101 = true := by kernel_rfl
@[simp] theorem arrOf_101 : arrOf Tryz.prog 101 = none := by kernel_rfl
@[simp] theorem strB_101 : strB Tryz.prog 101 = false := by kernel_rfl
@[simp] theorem bolB_101 : bolB Tryz.prog 101 = false := by kernel_rfl
@[simp] theorem mapB_101 : mapB Tryz.prog 101 = false := by kernel_rfl
@[simp] theorem intK_101 : intK Tryz.prog 101 = some IntKind.u64 := by kernel_rfl
@[simp] theorem zrow_101 : zrow Tryz.prog 101 = some [AV.sc (Value.int IntKind.u64 0)] := by kernel_rfl
@[simp] theorem bldOk_101 : bldOk Tryz.prog 101 = false := by kernel_rfl
@[simp] theorem tcs_101 : tcs Tryz.prog 101 = [101] := by kernel_rfl
@[simp] theorem srcT_101 : srcT Tryz.prog 101 = false := by kernel_rfl
@[simp] theorem zok_101 : zok Tryz.prog 101 = true := by kernel_rfl
@[simp] theorem flds_101 : flds Tryz.prog 101 = [] := by kernel_rfl
@[simp] theorem zeros_101 : zeros Tryz.prog 101 = some [Value.int IntKind.u64 0] := by kernel_rfl
@[simp] theorem isinfo_101 : (Tryz.prog.info? 101).isSome = true := by kernel_rfl
@[simp] theorem isund_101 : (Tryz.prog.underlying 101).isSome = true := by kernel_rfl
@[simp] theorem cellsOf_103 : Tryz.prog.cellsOf 103 = 8 := by kernel_rfl
@[simp] theorem bytesOf_103 : Tryz.prog.bytesOf 103 = 32 := by kernel_rfl
@[simp] theorem slel_103 : slel Tryz.prog 103 = none := by kernel_rfl
@[simp] theorem isAggB_103 : isAggB Tryz.prog 103 = true := by kernel_rfl
@[simp] theorem tOk_103 : tOk Tryz.prog 103 = true := by kernel_rfl
@[simp] theorem arrOf_103 : arrOf Tryz.prog 103 = some (8, 22) := by kernel_rfl
@[simp] theorem strB_103 : strB Tryz.prog 103 = false := by kernel_rfl
@[simp] theorem bolB_103 : bolB Tryz.prog 103 = false := by kernel_rfl
@[simp] theorem mapB_103 : mapB Tryz.prog 103 = false := by kernel_rfl
@[simp] theorem intK_103 : intK Tryz.prog 103 = none := by kernel_rfl
@[simp] theorem zrow_103 : zrow Tryz.prog 103 = some [AV.sc (Value.int IntKind.u32 0), AV.sc (Value.int IntKind.u32 0), AV.sc (Value.int IntKind.u32 0), AV.sc (Value.int IntKind.u32 0), AV.sc (Value.int IntKind.u32 0), AV.sc (Value.int IntKind.u32 0), AV.sc (Value.int IntKind.u32 0), AV.sc (Value.int IntKind.u32 0)] := by kernel_rfl
@[simp] theorem bldOk_103 : bldOk Tryz.prog 103 = true := by kernel_rfl
@[simp] theorem tcs_103 : tcs Tryz.prog 103 = [22, 22, 22, 22, 22, 22, 22, 22] := by kernel_rfl
@[simp] theorem srcT_103 : srcT Tryz.prog 103 = false := by kernel_rfl
@[simp] theorem zok_103 : zok Tryz.prog 103 = true := by kernel_rfl
@[simp] theorem flds_103 : flds Tryz.prog 103 = [] := by kernel_rfl
@[simp] theorem zeros_103 : zeros Tryz.prog 103 = some [Value.int IntKind.u32 0, Value.int IntKind.u32 0, Value.int IntKind.u32 0, Value.int IntKind.u32 0, Value.int IntKind.u32 0, Value.int IntKind.u32 0, Value.int IntKind.u32 0, Value.int IntKind.u32 0] := by kernel_rfl
@[simp] theorem isinfo_103 : (Tryz.prog.info? 103).isSome = true := by kernel_rfl
@[simp] theorem isund_103 : (Tryz.prog.underlying 103).isSome = true := by kernel_rfl
@[simp] theorem cellsOf_111 : Tryz.prog.cellsOf 111 = 1 := by kernel_rfl
@[simp] theorem bytesOf_111 : Tryz.prog.bytesOf 111 = 24 := by kernel_rfl
@[simp] theorem slel_111 : slel Tryz.prog 111 = some 3 := by kernel_rfl
@[simp] theorem isAggB_111 : isAggB Tryz.prog 111 = false := by kernel_rfl
@[simp] theorem tOk_111 : tOk Tryz.prog 111 = true := by kernel_rfl
@[simp] theorem arrOf_111 : arrOf Tryz.prog 111 = none := by kernel_rfl
@[simp] theorem strB_111 : strB Tryz.prog 111 = false := by kernel_rfl
@[simp] theorem bolB_111 : bolB Tryz.prog 111 = false := by kernel_rfl
@[simp] theorem mapB_111 : mapB Tryz.prog 111 = false := by kernel_rfl
@[simp] theorem intK_111 : intK Tryz.prog 111 = none := by kernel_rfl
@[simp] theorem zrow_111 : zrow Tryz.prog 111 = some [AV.sl false 1 []] := by kernel_rfl
@[simp] theorem bldOk_111 : bldOk Tryz.prog 111 = false := by kernel_rfl
@[simp] theorem tcs_111 : tcs Tryz.prog 111 = [111] := by kernel_rfl
@[simp] theorem srcT_111 : srcT Tryz.prog 111 = true := by kernel_rfl
@[simp] theorem zok_111 : zok Tryz.prog 111 = true := by kernel_rfl
@[simp] theorem flds_111 : flds Tryz.prog 111 = [] := by kernel_rfl
@[simp] theorem zeros_111 : zeros Tryz.prog 111 = some [Value.slice none 0 0] := by kernel_rfl
@[simp] theorem isinfo_111 : (Tryz.prog.info? 111).isSome = true := by kernel_rfl
@[simp] theorem isund_111 : (Tryz.prog.underlying 111).isSome = true := by kernel_rfl
@[simp] theorem cellsOf_114 : Tryz.prog.cellsOf 114 = 1 := by kernel_rfl
@[simp] theorem bytesOf_114 : Tryz.prog.bytesOf 114 = 8 := by kernel_rfl
@[simp] theorem slel_114 : slel Tryz.prog 114 = none := by kernel_rfl
@[simp] theorem isAggB_114 : isAggB Tryz.prog 114 = false := by kernel_rfl
@[simp] theorem tOk_114 : tOk Tryz.prog 114 = true := by kernel_rfl
@[simp] theorem arrOf_114 : arrOf Tryz.prog 114 = none := by kernel_rfl
@[simp] theorem strB_114 : strB Tryz.prog 114 = false := by kernel_rfl
@[simp] theorem bolB_114 : bolB Tryz.prog 114 = false := by kernel_rfl
@[simp] theorem mapB_114 : mapB Tryz.prog 114 = false := by kernel_rfl
@[simp] theorem intK_114 : intK Tryz.prog 114 = none := by kernel_rfl
@[simp] theorem zrow_114 : zrow Tryz.prog 114 = some [AV.sc Value.nilFunc] := by kernel_rfl
@[simp] theorem bldOk_114 : bldOk Tryz.prog 114 = false := by kernel_rfl
@[simp] theorem tcs_114 : tcs Tryz.prog 114 = [114] := by kernel_rfl
@[simp] theorem srcT_114 : srcT Tryz.prog 114 = false := by kernel_rfl
@[simp] theorem zok_114 : zok Tryz.prog 114 = true := by kernel_rfl
@[simp] theorem flds_114 : flds Tryz.prog 114 = [] := by kernel_rfl
@[simp] theorem zeros_114 : zeros Tryz.prog 114 = some [Value.nilFunc] := by kernel_rfl
@[simp] theorem isinfo_114 : (Tryz.prog.info? 114).isSome = true := by kernel_rfl
@[simp] theorem isund_114 : (Tryz.prog.underlying 114).isSome = true := by kernel_rfl
@[simp] theorem cellsOf_116 : Tryz.prog.cellsOf 116 = 2 := by kernel_rfl
@[simp] theorem bytesOf_116 : Tryz.prog.bytesOf 116 = 32 := by kernel_rfl
@[simp] theorem slel_116 : slel Tryz.prog 116 = none := by kernel_rfl
@[simp] theorem isAggB_116 : isAggB Tryz.prog 116 = true := by kernel_rfl
@[simp] theorem tOk_116 : tOk Tryz.prog 116 = true := by kernel_rfl
@[simp] theorem arrOf_116 : arrOf Tryz.prog 116 = none := by kernel_rfl
@[simp] theorem strB_116 : strB Tryz.prog 116 = false := by kernel_rfl
@[simp] theorem bolB_116 : bolB Tryz.prog 116 = false := by kernel_rfl
@[simp] theorem mapB_116 : mapB Tryz.prog 116 = false := by kernel_rfl
@[simp] theorem intK_116 : intK Tryz.prog 116 = none := by kernel_rfl
@[simp] theorem zrow_116 : zrow Tryz.prog 116 = some [AV.sl false 4 [], AV.sc (Value.bool false)] := by kernel_rfl
@[simp] theorem bldOk_116 : bldOk Tryz.prog 116 = true := by kernel_rfl
@[simp] theorem tcs_116 : tcs Tryz.prog 116 = [30, 4] := by kernel_rfl
@[simp] theorem srcT_116 : srcT Tryz.prog 116 = false := by kernel_rfl
@[simp] theorem zok_116 : zok Tryz.prog 116 = true := by kernel_rfl
@[simp] theorem flds_116 : flds Tryz.prog 116 = [(0, 1, 30), (1, 1, 4)] := by kernel_rfl
@[simp] theorem zeros_116 : zeros Tryz.prog 116 = some [Value.slice none 0 0, Value.bool false] := by kernel_rfl
@[simp] theorem isinfo_116 : (Tryz.prog.info? 116).isSome = true := by kernel_rfl
@[simp] theorem isund_116 : (Tryz.prog.underlying 116).isSome = true := by kernel_rfl
@[simp] theorem cellsOf_118 : Tryz.prog.cellsOf 118 = 1 := by kernel_rfl
@[simp] theorem bytesOf_118 : Tryz.prog.bytesOf 118 = 24 := by kernel_rfl
@[simp] theorem slel_118 : slel Tryz.prog 118 = some 83 := by kernel_rfl
@[simp] theorem isAggB_118 : isAggB Tryz.prog 118 = false := by kernel_rfl
@[simp] theorem tOk_118 : tOk Tryz.prog 118 = true := by kernel_rfl
@[simp] theorem arrOf_118 : arrOf Tryz.prog 118 = none := by kernel_rfl
@[simp] theorem strB_118 : strB Tryz.prog 118 = false := by kernel_rfl
@[simp] theorem bolB_118 : bolB Tryz.prog 118 = false := by kernel_rfl
@[simp] theorem mapB_118 : mapB Tryz.prog 118 = false := by kernel_rfl
@[simp] theorem intK_118 : intK Tryz.prog 118 = none := by kernel_rfl
@[simp] theorem zrow_118 : zrow Tryz.prog 118 = some [AV.sl false 4 []] := by kernel_rfl
@[simp] theorem bldOk_118 : bldOk Tryz.prog 118 = false := by kernel_rfl
@[simp] theorem tcs_118 : tcs Tryz.prog 118 = [118] := by kernel_rfl
@[simp] theorem srcT_118 : srcT Tryz.prog 118 = true := by kernel_rfl
@[simp] theorem zok_118 : zok Tryz.prog 118 = true := by kernel_rfl
@[simp] theorem flds_118 : flds Tryz.prog 118 = [] := by kernel_rfl
@[simp] theorem zeros_118 : zeros Tryz.prog 118 = some [Value.slice none 0 0] := by kernel_rfl
@[simp] theorem isinfo_118 : (Tryz.prog.info? 118).isSome = true := by kernel_rfl
@[simp] theorem isund_118 : (Tryz.prog.underlying 118).isSome = true := by kernel_rfl
@[simp] theorem cellsOf_119 : Tryz.prog.cellsOf 119 = 1 := by kernel_rfl
@[simp] theorem bytesOf_119 : Tryz.prog.bytesOf 119 = 0 := by kernel_rfl
@[simp] theorem slel_119 : slel Tryz.prog 119 = none := by kernel_rfl
@[simp] theorem isAggB_119 : isAggB Tryz.prog 119 = false := by kernel_rfl
@[simp] theorem tOk_119 : tOk Tryz.prog 119 = true := by kernel_rfl
@[simp] theorem arrOf_119 : arrOf Tryz.prog 119 = none := by kernel_rfl
@[simp] theorem strB_119 : strB Tryz.prog 119 = false := by kernel_rfl
@[simp] theorem bolB_119 : bolB Tryz.prog 119 = false := by kernel_rfl
@[simp] theorem mapB_119 : mapB Tryz.prog 119 = false := by kernel_rfl
@[simp] theorem intK_119 : intK Tryz.prog 119 = none := by kernel_rfl
@[simp] theorem zrow_119 : zrow Tryz.prog 119 = none := by kernel_rfl
@[simp] theorem bldOk_119 : bldOk Tryz.prog 119 = false := by kernel_rfl
@[simp] theorem tcs_119 : tcs Tryz.prog 119 = [119] := by kernel_rfl
@[simp] theorem srcT_119 : srcT Tryz.prog 119 = false := by kernel_rfl
@[simp] theorem zok_119 : zok Tryz.prog 119 = true := by kernel_rfl
@[simp] theorem flds_119 : flds Tryz.prog 119 = [] := by kernel_rfl
@[simp] theorem zeros_119 : zeros Tryz.prog 119 = some [Value.tuple { toList := [Value.int IntKind.u32 0, Value.int IntKind.i64 0] }] := by kernel_rfl
@[simp] theorem isinfo_119 : (Tryz.prog.info? 119).isSome = true := by kernel_rfl
@[simp] theorem isund_119 : (Tryz.prog.underlying 119).isSome = true := by kernel_rfl
@[simp] theorem cellsOf_122 : Tryz.prog.cellsOf 122 = 1 := by kernel_rfl
@[simp] theorem bytesOf_122 : Tryz.prog.bytesOf 122 = 8 := by kernel_rfl
@[simp] theorem slel_122 : slel Tryz.prog 122 = none := by kernel_rfl
@[simp] theorem isAggB_122 : isAggB Tryz.prog 122 = false := by kernel_rfl
@[simp] theorem tOk_122 : tOk Tryz.prog 122 = true := by kernel_rfl
@[simp] theorem arrOf_122 : arrOf Tryz.prog 122 = none := by kernel_rfl
@[simp] theorem strB_122 : strB Tryz.prog 122 = false := by kernel_rfl
@[simp] theorem bolB_122 : bolB Tryz.prog 122 = false := by kernel_rfl
@[simp] theorem mapB_122 : mapB Tryz.prog 122 = false := by kernel_rfl
@[simp] theorem intK_122 : intK Tryz.prog 122 = none := by kernel_rfl
@[simp] theorem zrow_122 : zrow Tryz.prog 122 = some [AV.sc Value.nilFunc] := by kernel_rfl
@[simp] theorem bldOk_122 : bldOk Tryz.prog 122 = false := by kernel_rfl
@[simp] theorem tcs_122 : tcs Tryz.prog 122 = [122] := by kernel_rfl
@[simp] theorem srcT_122 : srcT Tryz.prog 122 = false := by kernel_rfl
@[simp] theorem zok_122 : zok Tryz.prog 122 = true := by kernel_rfl
@[simp] theorem flds_122 : flds Tryz.prog 122 = [] := by kernel_rfl
@[simp] theorem zeros_122 : zeros Tryz.prog 122 = some [Value.nilFunc] := by kernel_rfl
@[simp] theorem isinfo_122 : (Tryz.prog.info? 122).isSome = true := by kernel_rfl
@[simp] theorem isund_122 : (Tryz.prog.underlying 122).isSome = true := by kernel_rfl
@[simp] theorem cellsOf_123 : Tryz.prog.cellsOf 123 = 1 := by kernel_rfl
@[simp] theorem bytesOf_123 : Tryz.prog.bytesOf 123 = 0 := by kernel_rfl
@[simp] theorem slel_123 : slel Tryz.prog 123 = none := by kernel_rfl
@[simp] theorem isAggB_123 : isAggB Tryz.prog 123 = false := by kernel_rfl
@[simp] theorem tOk_123 : tOk Tryz.prog 123 = true := by kernel_rfl
@[simp] theorem arrOf_123 : arrOf Tryz.prog 123 = none := by kernel_rfl
@[simp] theorem strB_123 : strB Tryz.prog 123 = false := by kernel_rfl
@[simp] theorem bolB_123 : bolB Tryz.prog 123 = false := by kernel_rfl
@[simp] theorem mapB_123 : mapB Tryz.prog 123 = false := by kernel_rfl
@[simp] theorem intK_123 : intK Tryz.prog 123 = none := by kernel_rfl
@[simp] theorem zrow_123 : zrow Tryz.prog 123 = none := by kernel_rfl
@[simp] theorem bldOk_123 : bldOk Tryz.prog 123 = false := by kernel_rfl
@[simp] theorem tcs_123 : tcs Tryz.prog 123 = [123] := by kernel_rfl
@[simp] theorem srcT_123 : srcT Tryz.prog 123 = false := by kernel_rfl
@[simp] theorem zok_123 : zok Tryz.prog 123 = true := by kernel_rfl
@[simp] theorem flds_123 : flds Tryz.prog 123 = [] := by kernel_rfl
@[simp] theorem zeros_123 : zeros Tryz.prog 123 = some [Value.tuple { toList := [Value.agg { toList := [Value.int IntKind.i64 0, Value.int IntKind.u32 0, Value.int IntKind.u32 0, Value.int IntKind.u32 0, Value.int IntKind.u32 0, Value.int IntKind.u32 0, Value.int IntKind.u32 0, Value.int IntKind.u32 0, Value.int IntKind.u32 0, Value.int IntKind.u32 0, Value.int IntKind.u32 0, Value.int IntKind.u32 0, Value.int IntKind.u32 0, Value.int IntKind.u32 0, Value.int IntKind.u32 0, Value.int IntKind.u32 0, Value.int IntKind.u32 0, Value.slice none 0 0, Value.int IntKind.i64 0, Value.string { data := { toList := [] } }, Value.int IntKind.i64 0, Value.int IntKind.i64 0] }, Value.slice none 0 0] }] := by kernel_rfl
@[simp] theorem isinfo_123 : (Tryz.prog.info? 123).isSome = true := by kernel_rfl
@[simp] theorem isund_123 : (Tryz.prog.underlying 123).isSome = true := by kernel_rfl
@[simp] theorem cellsOf_126 : Tryz.prog.cellsOf 126 = 21 := by kernel_rfl
@[simp] theorem bytesOf_126 : Tryz.prog.bytesOf 126 = 21 := by kernel_rfl
@[simp] theorem slel_126 : slel Tryz.prog 126 = none := by kernel_rfl
@[simp] theorem isAggB_126 : isAggB Tryz.prog 126 = true := by kernel_rfl
@[simp] theorem tOk_126 : tOk Tryz.prog 126 = true := by kernel_rfl
@[simp] theorem arrOf_126 : arrOf Tryz.prog 126 = some (21, 5) := by kernel_rfl
@[simp] theorem strB_126 : strB Tryz.prog 126 = false := by kernel_rfl
@[simp] theorem bolB_126 : bolB Tryz.prog 126 = false := by kernel_rfl
@[simp] theorem mapB_126 : mapB Tryz.prog 126 = false := by kernel_rfl
@[simp] theorem intK_126 : intK Tryz.prog 126 = none := by kernel_rfl
@[simp] theorem zrow_126 : zrow Tryz.prog 126 = some [AV.sc (Value.int IntKind.u8 0), AV.sc (Value.int IntKind.u8 0), AV.sc (Value.int IntKind.u8 0), AV.sc (Value.int IntKind.u8 0), AV.sc (Value.int IntKind.u8 0), AV.sc (Value.int IntKind.u8 0), AV.sc (Value.int IntKind.u8 0), AV.sc (Value.int IntKind.u8 0), AV.sc (Value.int IntKind.u8 0), AV.sc (Value.int IntKind.u8 0), AV.sc (Value.int IntKind.u8 0), AV.sc (Value.int IntKind.u8 0), AV.sc (Value.int IntKind.u8 0), AV.sc (Value.int IntKind.u8 0), AV.sc (Value.int IntKind.u8 0), AV.sc (Value.int IntKind.u8 0), AV.sc (Value.int IntKind.u8 0), AV.sc (Value.int IntKind.u8 0), AV.sc (Value.int IntKind.u8 0), AV.sc (Value.int IntKind.u8 0), AV.sc (Value.int IntKind.u8 0)] := by kernel_rfl
@[simp] theorem bldOk_126 : bldOk Tryz.prog 126 = true := by kernel_rfl
@[simp] theorem tcs_126 : tcs Tryz.prog 126 = [5, 5, 5, 5, 5, 5, 5, 5, 5, 5, 5, 5, 5, 5, 5, 5, 5, 5, 5, 5, 5] := by kernel_rfl
@[simp] theorem srcT_126 : srcT Tryz.prog 126 = false := by kernel_rfl
@[simp] theorem zok_126 : zok Tryz.prog 126 = true := by kernel_rfl
@[simp] theorem flds_126 : flds Tryz.prog 126 = [] := by kernel_rfl
@[simp] theorem zeros_126 : zeros Tryz.prog 126 = some [Value.int IntKind.u8 0, Value.int IntKind.u8 0, Value.int IntKind.u8 0, Value.int IntKind.u8 0, Value.int IntKind.u8 0, Value.int IntKind.u8 0, Value.int IntKind.u8 0, Value.int IntKind.u8 0, Value.int IntKind.u8 0, Value.int IntKind.u8 0, Value.int IntKind.u8 0, Value.int IntKind.u8 0, Value.int IntKind.u8 0, Value.int IntKind.u8 0, Value.int IntKind.u8 0, Value.int IntKind.u8 0, Value.int IntKind.u8 0, Value.int IntKind.u8 0, Value.int IntKind.u8 0, Value.int IntKind.u8 0, Value.int IntKind.u8 0] := by kernel_rfl
@[simp] theorem isinfo_126 : (Tryz.prog.info? 126).isSome = true := by kernel_rfl
@[simp] theorem isund_126 : (Tryz.prog.underlying 126).isSome = true := by kernel_rfl
@[simp] theorem cellsOf_127 : Tryz.prog.cellsOf 127 = 1 := by kernel_rfl
@[simp] theorem bytesOf_127 : Tryz.prog.bytesOf 127 = 8 := by kernel_rfl
@[simp] theorem slel_127 : slel Tryz.prog 127 = none := by kernel_rfl
@[simp] theorem isAggB_127 : isAggB Tryz.prog 127 = false := by kernel_rfl
@[simp] theorem tOk_127 : tOk Tryz.prog 127 = true := by kernel_rfl
@[simp] theorem arrOf_127 : arrOf Tryz.prog 127 = none := by kernel_rfl
@[simp] theorem strB_127 : strB Tryz.prog 127 = false := by kernel_rfl
@[simp] theorem bolB_127 : bolB Tryz.prog 127 = false := by kernel_rfl
@[simp] theorem mapB_127 : mapB Tryz.prog 127 = false := by kernel_rfl
@[simp] theorem intK_127 : intK Tryz.prog 127 = none := by kernel_rfl
@[simp] theorem zrow_127 : zrow Tryz.prog 127 = some [AV.sc Value.nilFunc] := by kernel_rfl
@[simp] theorem bldOk_127 : bldOk Tryz.prog 127 = false := by kernel_rfl
@[simp] theorem tcs_127 : tcs Tryz.prog 127 = [127] := by kernel_rfl
@[simp] theorem srcT_127 : srcT Tryz.prog 127 = false := by kernel_rfl
@[simp] theorem zok_127 : zok Tryz.prog 127 = true := by kernel_rfl
@[simp] theorem flds_127 : flds Tryz.prog 127 = [] := by kernel_rfl
@[simp] theorem zeros_127 : zeros Tryz.prog 127 = some [Value.nilFunc] := by kernel_rfl
@[simp] theorem isinfo_127 : (Tryz.prog.info? 127).isSome = true := by kernel_rfl
@[simp] theorem isund_127 : (Tryz.prog.underlying 127).isSome = true := by kernel_rfl
@[simp] theorem cellsOf_129 : Tryz.prog.cellsOf 129 = 1 := by kernel_rfl
@[simp] theorem bytesOf_129 : Tryz.prog.bytesOf 129 = 8 := by kernel_rfl
@[simp] theorem slel_129 : slel Tryz.prog 129 = none := by kernel_rfl
@[simp] theorem isAggB_129 : isAggB Tryz.prog 129 = false := by kernel_rfl
@[simp] theorem tOk_129 : tOk Tryz.prog 129 = true := by kernel_rfl
@[simp] theorem arrOf_129 : arrOf Tryz.prog 129 = none := by kernel_rfl
@[simp] theorem strB_129 : strB Tryz.prog 129 = false := by kernel_rfl
@[simp] theorem bolB_129 : bolB Tryz.prog 129 = false := by kernel_rfl
@[simp] theorem mapB_129 : mapB Tryz.prog 129 = false := by kernel_rfl
@[simp] theorem intK_129 : intK Tryz.prog 129 = none := by kernel_rfl
@[simp] theorem zrow_129 : zrow Tryz.prog 129 = some [AV.sc (Value.pointer none)] := by kernel_rfl
@[simp] theorem bldOk_129 : bldOk Tryz.prog 129 = false := by kernel_rfl
@[simp] theorem tcs_129 : tcs Tryz.prog 129 = [129] := by kernel_rfl
@[simp] theorem srcT_129 : srcT Tryz.prog 129 = false := by kernel_rfl
@[simp] theorem zok_129 : zok Tryz.prog 129 = true := by kernel_rfl
@[simp] theorem flds_129 : flds Tryz.prog 129 = [] := by kernel_rfl
@[simp] theorem zeros_129 : zeros Tryz.prog 129 = some [Value.pointer none] := by kernel_rfl
@[simp] theorem isinfo_129 : (Tryz.prog.info? 129).isSome = true := by kernel_rfl
@[simp] theorem isund_129 : (Tryz.prog.underlying 129).isSome = true := by kernel_rfl
@[simp] theorem cellsOf_132 : Tryz.prog.cellsOf 132 = 1 := by kernel_rfl
@[simp] theorem bytesOf_132 : Tryz.prog.bytesOf 132 = 24 := by kernel_rfl
@[simp] theorem slel_132 : slel Tryz.prog 132 = some 4 := by kernel_rfl
@[simp] theorem isAggB_132 : isAggB Tryz.prog 132 = false := by kernel_rfl
@[simp] theorem tOk_132 : tOk Tryz.prog 132 = true := by kernel_rfl
@[simp] theorem arrOf_132 : arrOf Tryz.prog 132 = none := by kernel_rfl
@[simp] theorem strB_132 : strB Tryz.prog 132 = false := by kernel_rfl
@[simp] theorem bolB_132 : bolB Tryz.prog 132 = false := by kernel_rfl
@[simp] theorem mapB_132 : mapB Tryz.prog 132 = false := by kernel_rfl
@[simp] theorem intK_132 : intK Tryz.prog 132 = none := by kernel_rfl
@[simp] theorem zrow_132 : zrow Tryz.prog 132 = some [AV.sl false 1 []] := by kernel_rfl
@[simp] theorem bldOk_132 : bldOk Tryz.prog 132 = false := by kernel_rfl
@[simp] theorem tcs_132 : tcs Tryz.prog 132 = [132] := by kernel_rfl
@[simp] theorem srcT_132 : srcT Tryz.prog 132 = true := by kernel_rfl
@[simp] theorem zok_132 : zok Tryz.prog 132 = true := by kernel_rfl
@[simp] theorem flds_132 : flds Tryz.prog 132 = [] := by kernel_rfl
@[simp] theorem zeros_132 : zeros Tryz.prog 132 = some [Value.slice none 0 0] := by kernel_rfl
@[simp] theorem isinfo_132 : (Tryz.prog.info? 132).isSome = true := by kernel_rfl
@[simp] theorem isund_132 : (Tryz.prog.underlying 132).isSome = true := by kernel_rfl
@[simp] theorem cellsOf_133 : Tryz.prog.cellsOf 133 = 1 := by kernel_rfl
@[simp] theorem bytesOf_133 : Tryz.prog.bytesOf 133 = 0 := by kernel_rfl
@[simp] theorem slel_133 : slel Tryz.prog 133 = none := by kernel_rfl
@[simp] theorem isAggB_133 : isAggB Tryz.prog 133 = false := by kernel_rfl
@[simp] theorem tOk_133 : tOk Tryz.prog 133 = true := by kernel_rfl
@[simp] theorem arrOf_133 : arrOf Tryz.prog 133 = none := by kernel_rfl
@[simp] theorem strB_133 : strB Tryz.prog 133 = false := by kernel_rfl
@[simp] theorem bolB_133 : bolB Tryz.prog 133 = false := by kernel_rfl
@[simp] theorem mapB_133 : mapB Tryz.prog 133 = false := by kernel_rfl
@[simp] theorem intK_133 : intK Tryz.prog 133 = none := by kernel_rfl
@[simp] theorem zrow_133 : zrow Tryz.prog 133 = none := by kernel_rfl
@[simp] theorem bldOk_133 : bldOk Tryz.prog 133 = false := by kernel_rfl
@[simp] theorem tcs_133 : tcs Tryz.prog 133 = [133] := by kernel_rfl
@[simp] theorem srcT_133 : srcT Tryz.prog 133 = false := by kernel_rfl
@[simp] theorem zok_133 : zok Tryz.prog 133 = true := by kernel_rfl
@[simp] theorem flds_133 : flds Tryz.prog 133 = [] := by kernel_rfl
@[simp] theorem zeros_133 : zeros Tryz.prog 133 = some [Value.tuple { toList := [Value.slice none 0 0, Value.slice none 0 0] }] := by kernel_rfl
@[simp] theorem isinfo_133 : (Tryz.prog.info? 133).isSome = true := by kernel_rfl
@[simp] theorem isund_133 : (Tryz.prog.underlying 133).isSome = true := by kernel_rfl
@[simp] theorem cellsOf_136 : Tryz.prog.cellsOf 136 = 28 := by kernel_rfl
@[simp] theorem bytesOf_136 : Tryz.prog.bytesOf 136 = 272 := by kernel_rfl
@[simp] theorem slel_136 : slel Tryz.prog 136 = none := by kernel_rfl
@[simp] theorem isAggB_136 : isAggB Tryz.prog 136 = true := by kernel_rfl
@[simp] theorem tOk_136 : tOk Tryz.prog 136 = true := by kernel_rfl
@[simp] theorem arrOf_136 : arrOf Tryz.prog 136 = none := by kernel_rfl
@[simp] theorem strB_136 : strB Tryz.prog 136 = false := by kernel_rfl
@[simp] theorem bolB_136 : bolB Tryz.prog 136 = false := by kernel_rfl
@[simp] theorem mapB_136 : mapB Tryz.prog 136 = false := by kernel_rfl
@[simp] theorem intK_136 : intK Tryz.prog 136 = none := by kernel_rfl
@[simp] theorem zrow_136 : zrow Tryz.prog 136 = some [AV.sc (Value.int IntKind.i64 0), AV.sc (Value.int IntKind.u32 0), AV.sc (Value.int IntKind.u32 0), AV.sc (Value.int IntKind.u32 0), AV.sc (Value.int IntKind.u32 0), AV.sc (Value.int IntKind.u32 0), AV.sc (Value.int IntKind.u32 0), AV.sc (Value.int IntKind.u32 0), AV.sc (Value.int IntKind.u32 0), AV.sc (Value.int IntKind.u32 0), AV.sc (Value.int IntKind.u32 0), AV.sc (Value.int IntKind.u32 0), AV.sc (Value.int IntKind.u32 0), AV.sc (Value.int IntKind.u32 0), AV.sc (Value.int IntKind.u32 0), AV.sc (Value.int IntKind.u32 0), AV.sc (Value.int IntKind.u32 0), AV.sl false 1 [], AV.sc (Value.int IntKind.i64 0), AV.sc (Value.string { data := { toList := [] } }), AV.sc (Value.int IntKind.i64 0), AV.sc (Value.int IntKind.i64 0), AV.sl false 1 [], AV.sl false 4 [], AV.sl false 1 [], AV.sl false 1 [], AV.sc (Value.string { data := { toList := [] } }), AV.sl false 1 []] := by kernel_rfl
@[simp] theorem bldOk_136 : bldOk Tryz.prog 136 = true := by kernel_rfl
@[simp] theorem tcs_136 : tcs Tryz.prog 136 = [3, 22, 22, 22, 22, 22, 22, 22, 22, 22, 22, 22, 22, 22, 22, 22, 22, 44, 3, 9, 3, 3, 100, 118, 132, 44, 9, 111] := by kernel_rfl
@[simp] theorem srcT_136 : srcT Tryz.prog 136 = false := by kernel_rfl
@[simp] theorem zok_136 : zok Tryz.prog 136 = true := by kernel_rfl
@[simp] theorem flds_136 : flds Tryz.prog 136 = [(0, 22, 93), (22, 1, 100), (23, 1, 118), (24, 1, 132), (25, 1, 44), (26, 1, 9), (27, 1, 111)] := by kernel_rfl
@[simp] theorem zeros_136 : zeros Tryz.prog 136 = some [Value.int IntKind.i64 0, Value.int IntKind.u32 0, Value.int IntKind.u32 0, Value.int IntKind.u32 0, Value.int IntKind.u32 0, Value.int IntKind.u32 0, Value.int IntKind.u32 0, Value.int IntKind.u32 0, Value.int IntKind.u32 0, Value.int IntKind.u32 0, Value.int IntKind.u32 0, Value.int IntKind.u32 0, Value.int IntKind.u32 0, Value.int IntKind.u32 0, Value.int IntKind.u32 0, Value.int IntKind.u32 0, Value.int IntKind.u32 0, Value.slice none 0 0, Value.int IntKind.i64 0, Value.string { data := { toList := [] } }, Value.int IntKind.i64 0, Value.int IntKind.i64 0, Value.slice none 0 0, Value.slice none 0 0, Value.slice none 0 0, Value.slice none 0 0, Value.string { data := { toList := [] } }, Value.slice none 0 0] := by kernel_rfl
@[simp] theorem isinfo_136 : (Tryz.prog.info? 136).isSome = true := by kernel_rfl
@[simp] theorem isund_136 : (Tryz.prog.underlying 136).isSome = true := by kernel_rfl
@[simp] theorem cellsOf_138 : Tryz.prog.cellsOf 138 = 4 := by kernel_rfl
@[simp] theorem bytesOf_138 : Tryz.prog.bytesOf 138 = 32 := by kernel_rfl
@[simp] theorem slel_138 : slel Tryz.prog 138 = none := by kernel_rfl
@[simp] theorem isAggB_138 : isAggB Tryz.prog 138 = true := by kernel_rfl
@[simp] theorem tOk_138 : tOk Tryz.prog 138 = true := by kernel_rfl
@[simp] theorem arrOf_138 : arrOf Tryz.prog 138 = some (4, 3) := by kernel_rfl
@[simp] theorem strB_138 : strB Tryz.prog 138 = false := by kernel_rfl
@[simp] theorem bolB_138 : bolB Tryz.prog 138 = false := by kernel_rfl
@[simp] theorem mapB_138 : mapB Tryz.prog 138 = false := by kernel_rfl
@[simp] theorem intK_138 : intK Tryz.prog 138 = none := by kernel_rfl
@[simp] theorem zrow_138 : zrow Tryz.prog 138 = some [AV.sc (Value.int IntKind.i64 0), AV.sc (Value.int IntKind.i64 0), AV.sc (Value.int IntKind.i64 0), AV.sc (Value.int IntKind.i64 0)] := by kernel_rfl
@[simp] theorem bldOk_138 : bldOk Tryz.prog 138 = true := by kernel_rfl
@[simp] theorem tcs_138 : tcs Tryz.prog 138 = [3, 3, 3, 3] := by kernel_rfl
@[simp] theorem srcT_138 : srcT Tryz.prog 138 = false := by kernel_rfl
@[simp] theorem zok_138 : zok Tryz.prog 138 = true := by kernel_rfl
@[simp] theorem flds_138 : flds Tryz.prog 138 = [] := by kernel_rfl
@[simp] theorem zeros_138 : zeros Tryz.prog 138 = some [Value.int IntKind.i64 0, Value.int IntKind.i64 0, Value.int IntKind.i64 0, Value.int IntKind.i64 0] := by kernel_rfl
@[simp] theorem isinfo_138 : (Tryz.prog.info? 138).isSome = true := by kernel_rfl
@[simp] theorem isund_138 : (Tryz.prog.underlying 138).isSome = true := by kernel_rfl
@[simp] theorem cellsOf_142 : Tryz.prog.cellsOf 142 = 4 := by kernel_rfl
@[simp] theorem bytesOf_142 : Tryz.prog.bytesOf 142 = 32 := by kernel_rfl
@[simp] theorem slel_142 : slel Tryz.prog 142 = none := by kernel_rfl
@[simp] theorem isAggB_142 : isAggB Tryz.prog 142 = true := by kernel_rfl
@[simp] theorem tOk_142 : tOk Tryz.prog 142 = true := by kernel_rfl
@[simp] theorem arrOf_142 : arrOf Tryz.prog 142 = none := by kernel_rfl
@[simp] theorem strB_142 : strB Tryz.prog 142 = false := by kernel_rfl
@[simp] theorem bolB_142 : bolB Tryz.prog 142 = false := by kernel_rfl
@[simp] theorem mapB_142 : mapB Tryz.prog 142 = false := by kernel_rfl
@[simp] theorem intK_142 : intK Tryz.prog 142 = none := by kernel_rfl
@[simp] theorem zrow_142 : zrow Tryz.prog 142 = some [AV.sc (Value.string { data := { toList := [] } }), AV.sc (Value.bool false), AV.sc (Value.bool false), AV.sc (Value.int IntKind.i64 0)] := by kernel_rfl
@[simp] theorem bldOk_142 : bldOk Tryz.prog 142 = true := by kernel_rfl
@[simp] theorem tcs_142 : tcs Tryz.prog 142 = [9, 4, 4, 3] := by kernel_rfl
@[simp] theorem srcT_142 : srcT Tryz.prog 142 = false := by kernel_rfl
@[simp] theorem zok_142 : zok Tryz.prog 142 = true := by kernel_rfl
@[simp] theorem flds_142 : flds Tryz.prog 142 = [(0, 1, 9), (1, 1, 4), (2, 1, 4), (3, 1, 3)] := by kernel_rfl
@[simp] theorem zeros_142 : zeros Tryz.prog 142 = some [Value.string { data := { toList := [] } }, Value.bool false, Value.bool false, Value.int IntKind.i64 0] := by kernel_rfl
@[simp] theorem isinfo_142 : (Tryz.prog.info? 142).isSome = true := by kernel_rfl
@[simp] theorem isund_142 : (Tryz.prog.underlying 142).isSome = true := by kernel_rfl
@[simp] theorem cellsOf_145 : Tryz.prog.cellsOf 145 = 1 := by kernel_rfl
@[simp] theorem bytesOf_145 : Tryz.prog.bytesOf 145 = 0 := by kernel_rfl
@[simp] theorem slel_145 : slel Tryz.prog 145 = none := by kernel_rfl
@[simp] theorem isAggB_145 : isAggB Tryz.prog 145 = false := by kernel_rfl
@[simp] theorem tOk_145 : tOk Tryz.prog 145 = true := by kernel_rfl
@[simp] theorem arrOf_145 : arrOf Tryz.prog 145 = none := by kernel_rfl
@[simp] theorem strB_145 : strB Tryz.prog 145 = false := by kernel_rfl
@[simp] theorem bolB_145 : bolB Tryz.prog 145 = false := by kernel_rfl
@[simp] theorem mapB_145 : mapB Tryz.prog 145 = false := by kernel_rfl
@[simp] theorem intK_145 : intK Tryz.prog 145 = none := by kernel_rfl
@[simp] theorem zrow_145 : zrow Tryz.prog 145 = none := by kernel_rfl
@[simp] theorem bldOk_145 : bldOk Tryz.prog 145 = false := by kernel_rfl
@[simp] theorem tcs_145 : tcs Tryz.prog 145 = [145] := by kernel_rfl
@[simp] theorem srcT_145 : srcT Tryz.prog 145 = false := by kernel_rfl
@[simp] theorem zok_145 : zok Tryz.prog 145 = true := by kernel_rfl
@[simp] theorem flds_145 : flds Tryz.prog 145 = [] := by kernel_rfl
@[simp] theorem zeros_145 : zeros Tryz.prog 145 = some [Value.tuple { toList := [Value.agg { toList := [Value.int IntKind.i64 0, Value.int IntKind.i64 0, Value.int IntKind.i64 0, Value.int IntKind.i64 0] }, Value.int IntKind.i64 0] }] := by kernel_rfl
@[simp] theorem isinfo_145 : (Tryz.prog.info? 145).isSome = true := by kernel_rfl
@[simp] theorem isund_145 : (Tryz.prog.underlying 145).isSome = true := by kernel_rfl
@[simp] theorem cellsOf_147 : Tryz.prog.cellsOf 147 = 1 := by kernel_rfl
@[simp] theorem bytesOf_147 : Tryz.prog.bytesOf 147 = 8 := by kernel_rfl
@[simp] theorem slel_147 : slel Tryz.prog 147 = none := by kernel_rfl
@[simp] theorem isAggB_147 : isAggB Tryz.prog 147 = false := by kernel_rfl
@[simp] theorem tOk_147 : tOk Tryz.prog 147 = true := by kernel_rfl
@[simp] theorem arrOf_147 : arrOf Tryz.prog 147 = none := by kernel_rfl
@[simp] theorem strB_147 : strB Tryz.prog 147 = false := by kernel_rfl
@[simp] theorem bolB_147 : bolB Tryz.prog 147 = false := by kernel_rfl
@[simp] theorem mapB_147 : mapB Tryz.prog 147 = false := by kernel_rfl
@[simp] theorem intK_147 : intK Tryz.prog 147 = none := by kernel_rfl
@[simp] theorem zrow_147 : zrow Tryz.prog 147 = some [AV.sc (Value.pointer none)] := by kernel_rfl
@[simp] theorem bldOk_147 : bldOk Tryz.prog 147 = false := by kernel_rfl
@[simp] theorem tcs_147 : tcs Tryz.prog 147 = [147] := by kernel_rfl
@[simp] theorem srcT_147 : srcT Tryz.prog 147 = false := by kernel_rfl
@[simp] theorem zok_147 : zok Tryz.prog 147 = true := by kernel_rfl
@[simp] theorem flds_147 : flds Tryz.prog 147 = [] := by kernel_rfl
@[simp] theorem zeros_147 : zeros Tryz.prog 147 = some [Value.pointer none] := by kernel_rfl
@[simp] theorem isinfo_147 : (Tryz.prog.info? 147).isSome = true := by kernel_rfl
@[simp] theorem isund_147 : (Tryz.prog.underlying 147).isSome = true := by kernel_rfl
@[simp] theorem cellsOf_149 : Tryz.prog.cellsOf 149 = 1 := by kernel_rfl
@[simp] theorem bytesOf_149 : Tryz.prog.bytesOf 149 = 0 := by kernel_rfl
@[simp] theorem slel_149 : slel Tryz.prog 149 = none := by kernel_rfl
@[simp] theorem isAggB_149 : isAggB Tryz.prog 149 = false := by kernel_rfl
@[simp] theorem tOk_149 : tOk Tryz.prog 149 = true := by kernel_rfl
@[simp] theorem arrOf_149 : arrOf Tryz.prog 149 = none := by kernel_rfl
@[simp] theorem strB_149 : strB Tryz.prog 149 = false := by kernel_rfl
@[simp] theorem bolB_149 : bolB Tryz.prog 149 = false := by kernel_rfl
@[simp] theorem mapB_149 : mapB Tryz.prog 149 = false := by kernel_rfl
@[simp] theorem intK_149 : intK Tryz.prog 149 = none := by kernel_rfl
@[simp] theorem zrow_149 : zrow Tryz.prog 149 = none := by kernel_rfl
@[simp] theorem bldOk_149 : bldOk Tryz.prog 149 = false := by kernel_rfl
@[simp] theorem tcs_149 : tcs Tryz.prog 149 = [149] := by kernel_rfl
@[simp] theorem srcT_149 : srcT Tryz.prog 149 = false := by kernel_rfl
@[simp] theorem zok_149 : zok Tryz.prog 149 = true := by kernel_rfl
@[simp] theorem flds_149 : flds Tryz.prog 149 = [] := by kernel_rfl
@[simp] theorem zeros_149 : zeros Tryz.prog 149 = some [Value.tuple { toList := [Value.int IntKind.u32 0, Value.bool false] }] := by kernel_rfl
@[simp] theorem isinfo_149 : (Tryz.prog.info? 149).isSome = true := by kernel_rfl
@[simp] theorem isund_149 : (Tryz.prog.underlying 149).isSome = true := by kernel_rfl
@[simp] theorem okFn_3 : okFn Tryz.prog 3 = true := by kernel_rfl
@[simp] theorem ptys_3 : ptys Tryz.prog 3 = [26, 28] := by kernel_rfl
@[simp] theorem rtys_3 : rtys Tryz.prog 3 = [4] := by kernel_rfl
@[simp] theorem flatF_3 : flatF Tryz.prog 3 = true := by kernel_rfl
@[simp] theorem bodyOk_3 : bodyOk Tryz.f3 = true := by kernel_rfl
@[simp] theorem okFn_4 : okFn Tryz.prog 4 = true := by kernel_rfl
@[simp] theorem ptys_4 : ptys Tryz.prog 4 = [] := by kernel_rfl
@[simp] theorem rtys_4 : rtys Tryz.prog 4 = [4] := by kernel_rfl
@[simp] theorem flatF_4 : flatF Tryz.prog 4 = true := by kernel_rfl
@[simp] theorem bodyOk_4 : bodyOk Tryz.f4 = true := by kernel_rfl
@[simp] theorem okFn_5 : okFn Tryz.prog 5 = true := by kernel_rfl
@[simp] theorem ptys_5 : ptys Tryz.prog 5 = [26, 28] := by kernel_rfl
@[simp] theorem rtys_5 : rtys Tryz.prog 5 = [26, 35, 36] := by kernel_rfl
@[simp] theorem flatF_5 : flatF Tryz.prog 5 = false := by kernel_rfl
@[simp] theorem bodyOk_5 : bodyOk Tryz.f5 = true := by kernel_rfl
@[simp] theorem okFn_6 : okFn Tryz.prog 6 = true := by kernel_rfl
@[simp] theorem ptys_6 : ptys Tryz.prog 6 = [26, 28] := by kernel_rfl
@[simp] theorem rtys_6 : rtys Tryz.prog 6 = [26, 35, 36] := by kernel_rfl
@[simp] theorem flatF_6 : flatF Tryz.prog 6 = false := by kernel_rfl
@[simp] theorem bodyOk_6 : bodyOk Tryz.f6 = true := by kernel_rfl
@[simp] theorem okFn_7 : okFn Tryz.prog 7 = true := by kernel_rfl
@[simp] theorem ptys_7 : ptys Tryz.prog 7 = [33, 33] := by kernel_rfl
@[simp] theorem rtys_7 : rtys Tryz.prog 7 = [4] := by kernel_rfl
@[simp] theorem flatF_7 : flatF Tryz.prog 7 = true := by kernel_rfl
@[simp] theorem bodyOk_7 : bodyOk Tryz.f7 = true := by kernel_rfl
@[simp] theorem okFn_8 : okFn Tryz.prog 8 = true := by kernel_rfl
@[simp] theorem ptys_8 : ptys Tryz.prog 8 = [28, 35] := by kernel_rfl
@[simp] theorem rtys_8 : rtys Tryz.prog 8 = [4] := by kernel_rfl
@[simp] theorem flatF_8 : flatF Tryz.prog 8 = true := by kernel_rfl
@[simp] theorem bodyOk_8 : bodyOk Tryz.f8 = true := by kernel_rfl
@[simp] theorem okFn_9 : okFn Tryz.prog 9 = true := by kernel_rfl
@[simp] theorem ptys_9 : ptys Tryz.prog 9 = [44] := by kernel_rfl
@[simp] theorem rtys_9 : rtys Tryz.prog 9 = [9, 36] := by kernel_rfl
@[simp] theorem flatF_9 : flatF Tryz.prog 9 = true := by kernel_rfl
@[simp] theorem bodyOk_9 : bodyOk Tryz.f9 = true := by kernel_rfl
@[simp] theorem okFn_10 : okFn Tryz.prog 10 = true := by kernel_rfl
@[simp] theorem ptys_10 : ptys Tryz.prog 10 = [9, 3, 22] := by kernel_rfl
@[simp] theorem rtys_10 : rtys Tryz.prog 10 = [9, 36] := by kernel_rfl
@[simp] theorem flatF_10 : flatF Tryz.prog 10 = true := by kernel_rfl
@[simp] theorem bodyOk_10 : bodyOk Tryz.f10 = true := by kernel_rfl
@[simp] theorem okFn_11 : okFn Tryz.prog 11 = true := by kernel_rfl
@[simp] theorem ptys_11 : ptys Tryz.prog 11 = [48, 3] := by kernel_rfl
@[simp] theorem rtys_11 : rtys Tryz.prog 11 = [48, 36] := by kernel_rfl
@[simp] theorem flatF_11 : flatF Tryz.prog 11 = false := by kernel_rfl
@[simp] theorem bodyOk_11 : bodyOk Tryz.f11 = true := by kernel_rfl
@[simp] theorem okFn_12 : okFn Tryz.prog 12 = true := by kernel_rfl
@[simp] theorem ptys_12 : ptys Tryz.prog 12 = [9, 9] := by kernel_rfl
@[simp] theorem rtys_12 : rtys Tryz.prog 12 = [4] := by kernel_rfl
@[simp] theorem flatF_12 : flatF Tryz.prog 12 = true := by kernel_rfl
@[simp] theorem bodyOk_12 : bodyOk Tryz.f12 = true := by kernel_rfl
@[simp] theorem okFn_13 : okFn Tryz.prog 13 = true := by kernel_rfl
@[simp] theorem ptys_13 : ptys Tryz.prog 13 = [26, 24] := by kernel_rfl
@[simp] theorem rtys_13 : rtys Tryz.prog 13 = [26, 33, 36] := by kernel_rfl
@[simp] theorem flatF_13 : flatF Tryz.prog 13 = false := by kernel_rfl
@[simp] theorem bodyOk_13 : bodyOk Tryz.f13 = true := by kernel_rfl
@[simp] theorem okFn_14 : okFn Tryz.prog 14 = true := by kernel_rfl
@[simp] theorem ptys_14 : ptys Tryz.prog 14 = [28] := by kernel_rfl
@[simp] theorem rtys_14 : rtys Tryz.prog 14 = [24] := by kernel_rfl
@[simp] theorem flatF_14 : flatF Tryz.prog 14 = true := by kernel_rfl
@[simp] theorem bodyOk_14 : bodyOk Tryz.f14 = true := by kernel_rfl
@[simp] theorem okFn_15 : okFn Tryz.prog 15 = true := by kernel_rfl
@[simp] theorem ptys_15 : ptys Tryz.prog 15 = [24, 3] := by kernel_rfl
@[simp] theorem rtys_15 : rtys Tryz.prog 15 = [24, 36] := by kernel_rfl
@[simp] theorem flatF_15 : flatF Tryz.prog 15 = true := by kernel_rfl
@[simp] theorem bodyOk_15 : bodyOk Tryz.f15 = true := by kernel_rfl
@[simp] theorem okFn_16 : okFn Tryz.prog 16 = true := by kernel_rfl
@[simp] theorem ptys_16 : ptys Tryz.prog 16 = [26, 24] := by kernel_rfl
@[simp] theorem rtys_16 : rtys Tryz.prog 16 = [26, 33, 36] := by kernel_rfl
@[simp] theorem flatF_16 : flatF Tryz.prog 16 = false := by kernel_rfl
@[simp] theorem bodyOk_16 : bodyOk Tryz.f16 = true := by kernel_rfl
@[simp] theorem okFn_17 : okFn Tryz.prog 17 = true := by kernel_rfl
@[simp] theorem ptys_17 : ptys Tryz.prog 17 = [28] := by kernel_rfl
@[simp] theorem rtys_17 : rtys Tryz.prog 17 = [24] := by kernel_rfl
@[simp] theorem flatF_17 : flatF Tryz.prog 17 = true := by kernel_rfl
@[simp] theorem bodyOk_17 : bodyOk Tryz.f17 = true := by kernel_rfl
@[simp] theorem okFn_18 : okFn Tryz.prog 18 = true := by kernel_rfl
@[simp] theorem ptys_18 : ptys Tryz.prog 18 = [24, 3] := by kernel_rfl
@[simp] theorem rtys_18 : rtys Tryz.prog 18 = [24, 36] := by kernel_rfl
@[simp] theorem flatF_18 : flatF Tryz.prog 18 = true := by kernel_rfl
@[simp] theorem bodyOk_18 : bodyOk Tryz.f18 = true := by kernel_rfl
@[simp] theorem okFn_19 : okFn Tryz.prog 19 = true := by kernel_rfl
@[simp] theorem ptys_19 : ptys Tryz.prog 19 = [30, 30] := by kernel_rfl
@[simp] theorem rtys_19 : rtys Tryz.prog 19 = [4] := by kernel_rfl
@[simp] theorem flatF_19 : flatF Tryz.prog 19 = true := by kernel_rfl
@[simp] theorem bodyOk_19 : bodyOk Tryz.f19 = true := by kernel_rfl
@[simp] theorem okFn_20 : okFn Tryz.prog 20 = true := by kernel_rfl
@[simp] theorem ptys_20 : ptys Tryz.prog 20 = [24, 24, 33] := by kernel_rfl
@[simp] theorem rtys_20 : rtys Tryz.prog 20 = [4] := by kernel_rfl
@[simp] theorem flatF_20 : flatF Tryz.prog 20 = true := by kernel_rfl
@[simp] theorem bodyOk_20 : bodyOk Tryz.f20 = true := by kernel_rfl
@[simp] theorem okFn_21 : okFn Tryz.prog 21 = true := by kernel_rfl
@[simp] theorem ptys_21 : ptys Tryz.prog 21 = [3] := by kernel_rfl
@[simp] theorem rtys_21 : rtys Tryz.prog 21 = [44, 36] := by kernel_rfl
@[simp] theorem flatF_21 : flatF Tryz.prog 21 = false := by kernel_rfl
@[simp] theorem bodyOk_21 : bodyOk Tryz.f21 = true := by kernel_rfl
@[simp] theorem okFn_22 : okFn Tryz.prog 22 = true := by kernel_rfl
@[simp] theorem ptys_22 : ptys Tryz.prog 22 = [63] := by kernel_rfl
@[simp] theorem rtys_22 : rtys Tryz.prog 22 = [9, 36] := by kernel_rfl
@[simp] theorem flatF_22 : flatF Tryz.prog 22 = true := by kernel_rfl
@[simp] theorem bodyOk_22 : bodyOk Tryz.f22 = true := by kernel_rfl
@[simp] theorem okFn_23 : okFn Tryz.prog 23 = true := by kernel_rfl
@[simp] theorem ptys_23 : ptys Tryz.prog 23 = [9] := by kernel_rfl
@[simp] theorem rtys_23 : rtys Tryz.prog 23 = [63, 36] := by kernel_rfl
@[simp] theorem flatF_23 : flatF Tryz.prog 23 = false := by kernel_rfl
@[simp] theorem bodyOk_23 : bodyOk Tryz.f23 = true := by kernel_rfl
@[simp] theorem okFn_24 : okFn Tryz.prog 24 = true := by kernel_rfl
@[simp] theorem ptys_24 : ptys Tryz.prog 24 = [9] := by kernel_rfl
@[simp] theorem rtys_24 : rtys Tryz.prog 24 = [63, 36] := by kernel_rfl
@[simp] theorem flatF_24 : flatF Tryz.prog 24 = false := by kernel_rfl
@[simp] theorem bodyOk_24 : bodyOk Tryz.f24 = true := by kernel_rfl
@[simp] theorem okFn_25 : okFn Tryz.prog 25 = true := by kernel_rfl
@[simp] theorem ptys_25 : ptys Tryz.prog 25 = [63, 9, 3] := by kernel_rfl
@[simp] theorem rtys_25 : rtys Tryz.prog 25 = [67] := by kernel_rfl
@[simp] theorem flatF_25 : flatF Tryz.prog 25 = true := by kernel_rfl
@[simp] theorem bodyOk_25 : bodyOk Tryz.f25 = true := by kernel_rfl
@[simp] theorem okFn_26 : okFn Tryz.prog 26 = true := by kernel_rfl
@[simp] theorem ptys_26 : ptys Tryz.prog 26 = [3] := by kernel_rfl
@[simp] theorem rtys_26 : rtys Tryz.prog 26 = [4] := by kernel_rfl
@[simp] theorem flatF_26 : flatF Tryz.prog 26 = true := by kernel_rfl
@[simp] theorem bodyOk_26 : bodyOk Tryz.f26 = true := by kernel_rfl
@[simp] theorem okFn_27 : okFn Tryz.prog 27 = true := by kernel_rfl
@[simp] theorem ptys_27 : ptys Tryz.prog 27 = [24, 3, 3, 24] := by kernel_rfl
@[simp] theorem rtys_27 : rtys Tryz.prog 27 = [33, 36] := by kernel_rfl
@[simp] theorem flatF_27 : flatF Tryz.prog 27 = false := by kernel_rfl
@[simp] theorem bodyOk_27 : bodyOk Tryz.f27 = true := by kernel_rfl
@[simp] theorem okFn_28 : okFn Tryz.prog 28 = true := by kernel_rfl
@[simp] theorem ptys_28 : ptys Tryz.prog 28 = [44] := by kernel_rfl
@[simp] theorem rtys_28 : rtys Tryz.prog 28 = [9] := by kernel_rfl
@[simp] theorem flatF_28 : flatF Tryz.prog 28 = true := by kernel_rfl
@[simp] theorem bodyOk_28 : bodyOk Tryz.f28 = true := by kernel_rfl
@[simp] theorem okFn_29 : okFn Tryz.prog 29 = true := by kernel_rfl
@[simp] theorem ptys_29 : ptys Tryz.prog 29 = [24, 24] := by kernel_rfl
@[simp] theorem rtys_29 : rtys Tryz.prog 29 = [24] := by kernel_rfl
@[simp] theorem flatF_29 : flatF Tryz.prog 29 = true := by kernel_rfl
@[simp] theorem bodyOk_29 : bodyOk Tryz.f29 = true := by kernel_rfl
@[simp] theorem okFn_30 : okFn Tryz.prog 30 = true := by kernel_rfl
@[simp] theorem ptys_30 : ptys Tryz.prog 30 = [9] := by kernel_rfl
@[simp] theorem rtys_30 : rtys Tryz.prog 30 = [24] := by kernel_rfl
@[simp] theorem flatF_30 : flatF Tryz.prog 30 = true := by kernel_rfl
@[simp] theorem bodyOk_30 : bodyOk Tryz.f30 = true := by kernel_rfl
@[simp] theorem okFn_31 : okFn Tryz.prog 31 = true := by kernel_rfl
@[simp] theorem ptys_31 : ptys Tryz.prog 31 = [30] := by kernel_rfl
@[simp] theorem rtys_31 : rtys Tryz.prog 31 = [24] := by kernel_rfl
@[simp] theorem flatF_31 : flatF Tryz.prog 31 = true := by kernel_rfl
@[simp] theorem bodyOk_31 : bodyOk Tryz.f31 = true := by kernel_rfl
@[simp] theorem okFn_32 : okFn Tryz.prog 32 = true := by kernel_rfl
@[simp] theorem ptys_32 : ptys Tryz.prog 32 = [24, 3] := by kernel_rfl
@[simp] theorem rtys_32 : rtys Tryz.prog 32 = [30] := by kernel_rfl
@[simp] theorem flatF_32 : flatF Tryz.prog 32 = false := by kernel_rfl
@[simp] theorem bodyOk_32 : bodyOk Tryz.f32 = true := by kernel_rfl
@[simp] theorem okFn_33 : okFn Tryz.prog 33 = true := by kernel_rfl
@[simp] theorem ptys_33 : ptys Tryz.prog 33 = [24, 3, 3, 24] := by kernel_rfl
@[simp] theorem rtys_33 : rtys Tryz.prog 33 = [33, 36] := by kernel_rfl
@[simp] theorem flatF_33 : flatF Tryz.prog 33 = false := by kernel_rfl
@[simp] theorem bodyOk_33 : bodyOk Tryz.f33 = true := by kernel_rfl
@[simp] theorem okFn_34 : okFn Tryz.prog 34 = true := by kernel_rfl
@[simp] theorem ptys_34 : ptys Tryz.prog 34 = [24, 24] := by kernel_rfl
@[simp] theorem rtys_34 : rtys Tryz.prog 34 = [24] := by kernel_rfl
@[simp] theorem flatF_34 : flatF Tryz.prog 34 = true := by kernel_rfl
@[simp] theorem bodyOk_34 : bodyOk Tryz.f34 = true := by kernel_rfl
@[simp] theorem okFn_35 : okFn Tryz.prog 35 = true := by kernel_rfl
@[simp] theorem ptys_35 : ptys Tryz.prog 35 = [9] := by kernel_rfl
@[simp] theorem rtys_35 : rtys Tryz.prog 35 = [24] := by kernel_rfl
@[simp] theorem flatF_35 : flatF Tryz.prog 35 = true := by kernel_rfl
@[simp] theorem bodyOk_35 : bodyOk Tryz.f35 = true := by kernel_rfl
@[simp] theorem okFn_36 : okFn Tryz.prog 36 = true := by kernel_rfl
@[simp] theorem ptys_36 : ptys Tryz.prog 36 = [28] := by kernel_rfl
@[simp] theorem rtys_36 : rtys Tryz.prog 36 = [9] := by kernel_rfl
@[simp] theorem flatF_36 : flatF Tryz.prog 36 = true := by kernel_rfl
@[simp] theorem bodyOk_36 : bodyOk Tryz.f36 = true := by kernel_rfl
@[simp] theorem okFn_37 : okFn Tryz.prog 37 = true := by kernel_rfl
@[simp] theorem ptys_37 : ptys Tryz.prog 37 = [30] := by kernel_rfl
@[simp] theorem rtys_37 : rtys Tryz.prog 37 = [24] := by kernel_rfl
@[simp] theorem flatF_37 : flatF Tryz.prog 37 = true := by kernel_rfl
@[simp] theorem bodyOk_37 : bodyOk Tryz.f37 = true := by kernel_rfl
@[simp] theorem okFn_38 : okFn Tryz.prog 38 = true := by kernel_rfl
@[simp] theorem ptys_38 : ptys Tryz.prog 38 = [24, 3] := by kernel_rfl
@[simp] theorem rtys_38 : rtys Tryz.prog 38 = [30] := by kernel_rfl
@[simp] theorem flatF_38 : flatF Tryz.prog 38 = false := by kernel_rfl
@[simp] theorem bodyOk_38 : bodyOk Tryz.f38 = true := by kernel_rfl
@[simp] theorem okFn_39 : okFn Tryz.prog 39 = true := by kernel_rfl
@[simp] theorem ptys_39 : ptys Tryz.prog 39 = [24, 31] := by kernel_rfl
@[simp] theorem rtys_39 : rtys Tryz.prog 39 = [24, 4] := by kernel_rfl
@[simp] theorem flatF_39 : flatF Tryz.prog 39 = true := by kernel_rfl
@[simp] theorem bodyOk_39 : bodyOk Tryz.f39 = true := by kernel_rfl
@[simp] theorem okFn_40 : okFn Tryz.prog 40 = true := by kernel_rfl
@[simp] theorem ptys_40 : ptys Tryz.prog 40 = [24, 3, 3, 24, 30] := by kernel_rfl
@[simp] theorem rtys_40 : rtys Tryz.prog 40 = [4] := by kernel_rfl
@[simp] theorem flatF_40 : flatF Tryz.prog 40 = true := by kernel_rfl
@[simp] theorem bodyOk_40 : bodyOk Tryz.f40 = true := by kernel_rfl
@[simp] theorem okFn_41 : okFn Tryz.prog 41 = true := by kernel_rfl
@[simp] theorem ptys_41 : ptys Tryz.prog 41 = [118] := by kernel_rfl
@[simp] theorem rtys_41 : rtys Tryz.prog 41 = [44, 36] := by kernel_rfl
@[simp] theorem flatF_41 : flatF Tryz.prog 41 = false := by kernel_rfl
@[simp] theorem bodyOk_41 : bodyOk Tryz.f41 = true := by kernel_rfl
@[simp] theorem okFn_42 : okFn Tryz.prog 42 = true := by kernel_rfl
@[simp] theorem ptys_42 : ptys Tryz.prog 42 = [63] := by kernel_rfl
@[simp] theorem rtys_42 : rtys Tryz.prog 42 = [4] := by kernel_rfl
@[simp] theorem flatF_42 : flatF Tryz.prog 42 = true := by kernel_rfl
@[simp] theorem bodyOk_42 : bodyOk Tryz.f42 = true := by kernel_rfl
@[simp] theorem okFn_43 : okFn Tryz.prog 43 = true := by kernel_rfl
@[simp] theorem ptys_43 : ptys Tryz.prog 43 = [87] := by kernel_rfl
@[simp] theorem rtys_43 : rtys Tryz.prog 43 = [44] := by kernel_rfl
@[simp] theorem flatF_43 : flatF Tryz.prog 43 = false := by kernel_rfl
@[simp] theorem bodyOk_43 : bodyOk Tryz.f43 = true := by kernel_rfl
@[simp] theorem okFn_44 : okFn Tryz.prog 44 = true := by kernel_rfl
@[simp] theorem ptys_44 : ptys Tryz.prog 44 = [9] := by kernel_rfl
@[simp] theorem rtys_44 : rtys Tryz.prog 44 = [87] := by kernel_rfl
@[simp] theorem flatF_44 : flatF Tryz.prog 44 = false := by kernel_rfl
@[simp] theorem bodyOk_44 : bodyOk Tryz.f44 = true := by kernel_rfl
@[simp] theorem okFn_45 : okFn Tryz.prog 45 = true := by kernel_rfl
@[simp] theorem ptys_45 : ptys Tryz.prog 45 = [9, 3] := by kernel_rfl
@[simp] theorem rtys_45 : rtys Tryz.prog 45 = [22] := by kernel_rfl
@[simp] theorem flatF_45 : flatF Tryz.prog 45 = true := by kernel_rfl
@[simp] theorem bodyOk_45 : bodyOk Tryz.f45 = true := by kernel_rfl
@[simp] theorem okFn_46 : okFn Tryz.prog 46 = true := by kernel_rfl
@[simp] theorem ptys_46 : ptys Tryz.prog 46 = [63, 9, 93, 3] := by kernel_rfl
@[simp] theorem rtys_46 : rtys Tryz.prog 46 = [93] := by kernel_rfl
@[simp] theorem flatF_46 : flatF Tryz.prog 46 = false := by kernel_rfl
@[simp] theorem bodyOk_46 : bodyOk Tryz.f46 = true := by kernel_rfl
@[simp] theorem okFn_47 : okFn Tryz.prog 47 = true := by kernel_rfl
@[simp] theorem ptys_47 : ptys Tryz.prog 47 = [63] := by kernel_rfl
@[simp] theorem rtys_47 : rtys Tryz.prog 47 = [93] := by kernel_rfl
@[simp] theorem flatF_47 : flatF Tryz.prog 47 = false := by kernel_rfl
@[simp] theorem bodyOk_47 : bodyOk Tryz.f47 = true := by kernel_rfl
@[simp] theorem okFn_48 : okFn Tryz.prog 48 = true := by kernel_rfl
@[simp] theorem ptys_48 : ptys Tryz.prog 48 = [30, 3] := by kernel_rfl
@[simp] theorem rtys_48 : rtys Tryz.prog 48 = [30, 36] := by kernel_rfl
@[simp] theorem flatF_48 : flatF Tryz.prog 48 = false := by kernel_rfl
@[simp] theorem bodyOk_48 : bodyOk Tryz.f48 = true := by kernel_rfl
@[simp] theorem okFn_49 : okFn Tryz.prog 49 = true := by kernel_rfl
@[simp] theorem ptys_49 : ptys Tryz.prog 49 = [24, 24] := by kernel_rfl
@[simp] theorem rtys_49 : rtys Tryz.prog 49 = [31] := by kernel_rfl
@[simp] theorem flatF_49 : flatF Tryz.prog 49 = false := by kernel_rfl
@[simp] theorem bodyOk_49 : bodyOk Tryz.f49 = true := by kernel_rfl
@[simp] theorem okFn_50 : okFn Tryz.prog 50 = true := by kernel_rfl
@[simp] theorem ptys_50 : ptys Tryz.prog 50 = [24, 3] := by kernel_rfl
@[simp] theorem rtys_50 : rtys Tryz.prog 50 = [24] := by kernel_rfl
@[simp] theorem flatF_50 : flatF Tryz.prog 50 = true := by kernel_rfl
@[simp] theorem bodyOk_50 : bodyOk Tryz.f50 = true := by kernel_rfl
@[simp] theorem okFn_51 : okFn Tryz.prog 51 = true := by kernel_rfl
@[simp] theorem ptys_51 : ptys Tryz.prog 51 = [103] := by kernel_rfl
@[simp] theorem rtys_51 : rtys Tryz.prog 51 = [24] := by kernel_rfl
@[simp] theorem flatF_51 : flatF Tryz.prog 51 = true := by kernel_rfl
@[simp] theorem bodyOk_51 : bodyOk Tryz.f51 = true := by kernel_rfl
@[simp] theorem okFn_52 : okFn Tryz.prog 52 = true := by kernel_rfl
@[simp] theorem ptys_52 : ptys Tryz.prog 52 = [103, 23] := by kernel_rfl
@[simp] theorem rtys_52 : rtys Tryz.prog 52 = [103] := by kernel_rfl
@[simp] theorem flatF_52 : flatF Tryz.prog 52 = true := by kernel_rfl
@[simp] theorem bodyOk_52 : bodyOk Tryz.f52 = true := by kernel_rfl
@[simp] theorem okFn_53 : okFn Tryz.prog 53 = true := by kernel_rfl
@[simp] theorem ptys_53 : ptys Tryz.prog 53 = [9, 3] := by kernel_rfl
@[simp] theorem rtys_53 : rtys Tryz.prog 53 = [23] := by kernel_rfl
@[simp] theorem flatF_53 : flatF Tryz.prog 53 = true := by kernel_rfl
@[simp] theorem bodyOk_53 : bodyOk Tryz.f53 = true := by kernel_rfl
@[simp] theorem okFn_54 : okFn Tryz.prog 54 = true := by kernel_rfl
@[simp] theorem ptys_54 : ptys Tryz.prog 54 = [3] := by kernel_rfl
@[simp] theorem rtys_54 : rtys Tryz.prog 54 = [3] := by kernel_rfl
@[simp] theorem flatF_54 : flatF Tryz.prog 54 = true := by kernel_rfl
@[simp] theorem bodyOk_54 : bodyOk Tryz.f54 = true := by kernel_rfl
@[simp] theorem okFn_55 : okFn Tryz.prog 55 = true := by kernel_rfl
@[simp] theorem ptys_55 : ptys Tryz.prog 55 = [24] := by kernel_rfl
@[simp] theorem rtys_55 : rtys Tryz.prog 55 = [24] := by kernel_rfl
@[simp] theorem flatF_55 : flatF Tryz.prog 55 = true := by kernel_rfl
@[simp] theorem bodyOk_55 : bodyOk Tryz.f55 = true := by kernel_rfl
@[simp] theorem okFn_56 : okFn Tryz.prog 56 = true := by kernel_rfl
@[simp] theorem ptys_56 : ptys Tryz.prog 56 = [30, 3] := by kernel_rfl
@[simp] theorem rtys_56 : rtys Tryz.prog 56 = [30, 36] := by kernel_rfl
@[simp] theorem flatF_56 : flatF Tryz.prog 56 = false := by kernel_rfl
@[simp] theorem bodyOk_56 : bodyOk Tryz.f56 = true := by kernel_rfl
@[simp] theorem okFn_57 : okFn Tryz.prog 57 = true := by kernel_rfl
@[simp] theorem ptys_57 : ptys Tryz.prog 57 = [24, 24] := by kernel_rfl
@[simp] theorem rtys_57 : rtys Tryz.prog 57 = [31] := by kernel_rfl
@[simp] theorem flatF_57 : flatF Tryz.prog 57 = false := by kernel_rfl
@[simp] theorem bodyOk_57 : bodyOk Tryz.f57 = true := by kernel_rfl
@[simp] theorem okFn_58 : okFn Tryz.prog 58 = true := by kernel_rfl
@[simp] theorem ptys_58 : ptys Tryz.prog 58 = [24, 3] := by kernel_rfl
@[simp] theorem rtys_58 : rtys Tryz.prog 58 = [24] := by kernel_rfl
@[simp] theorem flatF_58 : flatF Tryz.prog 58 = true := by kernel_rfl
@[simp] theorem bodyOk_58 : bodyOk Tryz.f58 = true := by kernel_rfl
@[simp] theorem okFn_59 : okFn Tryz.prog 59 = true := by kernel_rfl
@[simp] theorem ptys_59 : ptys Tryz.prog 59 = [103, 24] := by kernel_rfl
@[simp] theorem rtys_59 : rtys Tryz.prog 59 = [103] := by kernel_rfl
@[simp] theorem flatF_59 : flatF Tryz.prog 59 = true := by kernel_rfl
@[simp] theorem bodyOk_59 : bodyOk Tryz.f59 = true := by kernel_rfl
@[simp] theorem okFn_60 : okFn Tryz.prog 60 = true := by kernel_rfl
@[simp] theorem ptys_60 : ptys Tryz.prog 60 = [9] := by kernel_rfl
@[simp] theorem rtys_60 : rtys Tryz.prog 60 = [44, 36] := by kernel_rfl
@[simp] theorem flatF_60 : flatF Tryz.prog 60 = false := by kernel_rfl
@[simp] theorem bodyOk_60 : bodyOk Tryz.f60 = true := by kernel_rfl
@[simp] theorem okFn_61 : okFn Tryz.prog 61 = true := by kernel_rfl
@[simp] theorem ptys_61 : ptys Tryz.prog 61 = [44] := by kernel_rfl
@[simp] theorem rtys_61 : rtys Tryz.prog 61 = [9] := by kernel_rfl
@[simp] theorem flatF_61 : flatF Tryz.prog 61 = true := by kernel_rfl
@[simp] theorem bodyOk_61 : bodyOk Tryz.f61 = true := by kernel_rfl
@[simp] theorem okFn_62 : okFn Tryz.prog 62 = true := by kernel_rfl
@[simp] theorem ptys_62 : ptys Tryz.prog 62 = [3] := by kernel_rfl
@[simp] theorem rtys_62 : rtys Tryz.prog 62 = [3] := by kernel_rfl
@[simp] theorem flatF_62 : flatF Tryz.prog 62 = true := by kernel_rfl
@[simp] theorem bodyOk_62 : bodyOk Tryz.f62 = true := by kernel_rfl
@[simp] theorem okFn_63 : okFn Tryz.prog 63 = true := by kernel_rfl
@[simp] theorem ptys_63 : ptys Tryz.prog 63 = [24] := by kernel_rfl
@[simp] theorem rtys_63 : rtys Tryz.prog 63 = [24] := by kernel_rfl
@[simp] theorem flatF_63 : flatF Tryz.prog 63 = true := by kernel_rfl
@[simp] theorem bodyOk_63 : bodyOk Tryz.f63 = true := by kernel_rfl
@[simp] theorem okFn_64 : okFn Tryz.prog 64 = true := by kernel_rfl
@[simp] theorem ptys_64 : ptys Tryz.prog 64 = [] := by kernel_rfl
@[simp] theorem rtys_64 : rtys Tryz.prog 64 = [99] := by kernel_rfl
@[simp] theorem flatF_64 : flatF Tryz.prog 64 = false := by kernel_rfl
@[simp] theorem bodyOk_64 : bodyOk Tryz.f64 = true := by kernel_rfl
@[simp] theorem okFn_65 : okFn Tryz.prog 65 = true := by kernel_rfl
@[simp] theorem ptys_65 : ptys Tryz.prog 65 = [24] := by kernel_rfl
@[simp] theorem rtys_65 : rtys Tryz.prog 65 = [111] := by kernel_rfl
@[simp] theorem flatF_65 : flatF Tryz.prog 65 = false := by kernel_rfl
@[simp] theorem bodyOk_65 : bodyOk Tryz.f65 = true := by kernel_rfl
@[simp] theorem okFn_66 : okFn Tryz.prog 66 = true := by kernel_rfl
@[simp] theorem ptys_66 : ptys Tryz.prog 66 = [114] := by kernel_rfl
@[simp] theorem rtys_66 : rtys Tryz.prog 66 = [24] := by kernel_rfl
@[simp] theorem flatF_66 : flatF Tryz.prog 66 = true := by kernel_rfl
@[simp] theorem bodyOk_66 : bodyOk Tryz.f66 = true := by kernel_rfl
@[simp] theorem okFn_67 : okFn Tryz.prog 67 = true := by kernel_rfl
@[simp] theorem ptys_67 : ptys Tryz.prog 67 = [3] := by kernel_rfl
@[simp] theorem rtys_67 : rtys Tryz.prog 67 = [24] := by kernel_rfl
@[simp] theorem flatF_67 : flatF Tryz.prog 67 = true := by kernel_rfl
@[simp] theorem bodyOk_67 : bodyOk Tryz.f67 = true := by kernel_rfl
@[simp] theorem okFn_68 : okFn Tryz.prog 68 = true := by kernel_rfl
@[simp] theorem ptys_68 : ptys Tryz.prog 68 = [129, 3, 3, 24] := by kernel_rfl
@[simp] theorem rtys_68 : rtys Tryz.prog 68 = [24] := by kernel_rfl
@[simp] theorem flatF_68 : flatF Tryz.prog 68 = true := by kernel_rfl
@[simp] theorem bodyOk_68 : bodyOk Tryz.f68 = true := by kernel_rfl
@[simp] theorem okFn_69 : okFn Tryz.prog 69 = true := by kernel_rfl
@[simp] theorem ptys_69 : ptys Tryz.prog 69 = [129] := by kernel_rfl
@[simp] theorem rtys_69 : rtys Tryz.prog 69 = [4] := by kernel_rfl
@[simp] theorem flatF_69 : flatF Tryz.prog 69 = true := by kernel_rfl
@[simp] theorem bodyOk_69 : bodyOk Tryz.f69 = true := by kernel_rfl
@[simp] theorem okFn_70 : okFn Tryz.prog 70 = true := by kernel_rfl
@[simp] theorem ptys_70 : ptys Tryz.prog 70 = [83] := by kernel_rfl
@[simp] theorem rtys_70 : rtys Tryz.prog 70 = [22, 36] := by kernel_rfl
@[simp] theorem flatF_70 : flatF Tryz.prog 70 = true := by kernel_rfl
@[simp] theorem bodyOk_70 : bodyOk Tryz.f70 = true := by kernel_rfl
@[simp] theorem okFn_71 : okFn Tryz.prog 71 = true := by kernel_rfl
@[simp] theorem ptys_71 : ptys Tryz.prog 71 = [44, 87] := by kernel_rfl
@[simp] theorem rtys_71 : rtys Tryz.prog 71 = [44] := by kernel_rfl
@[simp] theorem flatF_71 : flatF Tryz.prog 71 = false := by kernel_rfl
@[simp] theorem bodyOk_71 : bodyOk Tryz.f71 = true := by kernel_rfl
@[simp] theorem okFn_72 : okFn Tryz.prog 72 = true := by kernel_rfl
@[simp] theorem ptys_72 : ptys Tryz.prog 72 = [122] := by kernel_rfl
@[simp] theorem rtys_72 : rtys Tryz.prog 72 = [] := by kernel_rfl
@[simp] theorem flatF_72 : flatF Tryz.prog 72 = true := by kernel_rfl
@[simp] theorem bodyOk_72 : bodyOk Tryz.f72 = true := by kernel_rfl
@[simp] theorem okFn_73 : okFn Tryz.prog 73 = true := by kernel_rfl
@[simp] theorem ptys_73 : ptys Tryz.prog 73 = [63, 9, 93, 3] := by kernel_rfl
@[simp] theorem rtys_73 : rtys Tryz.prog 73 = [93, 111] := by kernel_rfl
@[simp] theorem flatF_73 : flatF Tryz.prog 73 = false := by kernel_rfl
@[simp] theorem bodyOk_73 : bodyOk Tryz.f73 = true := by kernel_rfl
@[simp] theorem okFn_74 : okFn Tryz.prog 74 = true := by kernel_rfl
@[simp] theorem ptys_74 : ptys Tryz.prog 74 = [30, 3] := by kernel_rfl
@[simp] theorem rtys_74 : rtys Tryz.prog 74 = [30] := by kernel_rfl
@[simp] theorem flatF_74 : flatF Tryz.prog 74 = false := by kernel_rfl
@[simp] theorem bodyOk_74 : bodyOk Tryz.f74 = true := by kernel_rfl
@[simp] theorem okFn_75 : okFn Tryz.prog 75 = true := by kernel_rfl
@[simp] theorem ptys_75 : ptys Tryz.prog 75 = [24, 3] := by kernel_rfl
@[simp] theorem rtys_75 : rtys Tryz.prog 75 = [24] := by kernel_rfl
@[simp] theorem flatF_75 : flatF Tryz.prog 75 = true := by kernel_rfl
@[simp] theorem bodyOk_75 : bodyOk Tryz.f75 = true := by kernel_rfl
@[simp] theorem okFn_76 : okFn Tryz.prog 76 = true := by kernel_rfl
@[simp] theorem ptys_76 : ptys Tryz.prog 76 = [9] := by kernel_rfl
@[simp] theorem rtys_76 : rtys Tryz.prog 76 = [] := by kernel_rfl
@[simp] theorem flatF_76 : flatF Tryz.prog 76 = true := by kernel_rfl
@[simp] theorem bodyOk_76 : bodyOk Tryz.f76 = true := by kernel_rfl
@[simp] theorem okFn_77 : okFn Tryz.prog 77 = true := by kernel_rfl
@[simp] theorem ptys_77 : ptys Tryz.prog 77 = [103] := by kernel_rfl
@[simp] theorem rtys_77 : rtys Tryz.prog 77 = [103] := by kernel_rfl
@[simp] theorem flatF_77 : flatF Tryz.prog 77 = true := by kernel_rfl
@[simp] theorem bodyOk_77 : bodyOk Tryz.f77 = true := by kernel_rfl
@[simp] theorem okFn_78 : okFn Tryz.prog 78 = true := by kernel_rfl
@[simp] theorem ptys_78 : ptys Tryz.prog 78 = [3] := by kernel_rfl
@[simp] theorem rtys_78 : rtys Tryz.prog 78 = [24] := by kernel_rfl
@[simp] theorem flatF_78 : flatF Tryz.prog 78 = true := by kernel_rfl
@[simp] theorem bodyOk_78 : bodyOk Tryz.f78 = true := by kernel_rfl
@[simp] theorem okFn_79 : okFn Tryz.prog 79 = true := by kernel_rfl
@[simp] theorem ptys_79 : ptys Tryz.prog 79 = [30, 3] := by kernel_rfl
@[simp] theorem rtys_79 : rtys Tryz.prog 79 = [30] := by kernel_rfl
@[simp] theorem flatF_79 : flatF Tryz.prog 79 = false := by kernel_rfl
@[simp] theorem bodyOk_79 : bodyOk Tryz.f79 = true := by kernel_rfl
@[simp] theorem okFn_80 : okFn Tryz.prog 80 = true := by kernel_rfl
@[simp] theorem ptys_80 : ptys Tryz.prog 80 = [24] := by kernel_rfl
@[simp] theorem rtys_80 : rtys Tryz.prog 80 = [111] := by kernel_rfl
@[simp] theorem flatF_80 : flatF Tryz.prog 80 = false := by kernel_rfl
@[simp] theorem bodyOk_80 : bodyOk Tryz.f80 = true := by kernel_rfl
@[simp] theorem okFn_81 : okFn Tryz.prog 81 = true := by kernel_rfl
@[simp] theorem ptys_81 : ptys Tryz.prog 81 = [24, 3] := by kernel_rfl
@[simp] theorem rtys_81 : rtys Tryz.prog 81 = [24] := by kernel_rfl
@[simp] theorem flatF_81 : flatF Tryz.prog 81 = true := by kernel_rfl
@[simp] theorem bodyOk_81 : bodyOk Tryz.f81 = true := by kernel_rfl
@[simp] theorem okFn_82 : okFn Tryz.prog 82 = true := by kernel_rfl
@[simp] theorem ptys_82 : ptys Tryz.prog 82 = [24, 3] := by kernel_rfl
@[simp] theorem rtys_82 : rtys Tryz.prog 82 = [24] := by kernel_rfl
@[simp] theorem flatF_82 : flatF Tryz.prog 82 = true := by kernel_rfl
@[simp] theorem bodyOk_82 : bodyOk Tryz.f82 = true := by kernel_rfl
@[simp] theorem okFn_83 : okFn Tryz.prog 83 = true := by kernel_rfl
@[simp] theorem ptys_83 : ptys Tryz.prog 83 = [103] := by kernel_rfl
@[simp] theorem rtys_83 : rtys Tryz.prog 83 = [103] := by kernel_rfl
@[simp] theorem flatF_83 : flatF Tryz.prog 83 = true := by kernel_rfl
@[simp] theorem bodyOk_83 : bodyOk Tryz.f83 = true := by kernel_rfl
@[simp] theorem okFn_84 : okFn Tryz.prog 84 = true := by kernel_rfl
@[simp] theorem ptys_84 : ptys Tryz.prog 84 = [30] := by kernel_rfl
@[simp] theorem rtys_84 : rtys Tryz.prog 84 = [24] := by kernel_rfl
@[simp] theorem flatF_84 : flatF Tryz.prog 84 = true := by kernel_rfl
@[simp] theorem bodyOk_84 : bodyOk Tryz.f84 = true := by kernel_rfl
@[simp] theorem okFn_85 : okFn Tryz.prog 85 = true := by kernel_rfl
@[simp] theorem ptys_85 : ptys Tryz.prog 85 = [24, 3] := by kernel_rfl
@[simp] theorem rtys_85 : rtys Tryz.prog 85 = [24] := by kernel_rfl
@[simp] theorem flatF_85 : flatF Tryz.prog 85 = true := by kernel_rfl
@[simp] theorem bodyOk_85 : bodyOk Tryz.f85 = true := by kernel_rfl
@[simp] theorem okFn_86 : okFn Tryz.prog 86 = true := by kernel_rfl
@[simp] theorem ptys_86 : ptys Tryz.prog 86 = [129] := by kernel_rfl
@[simp] theorem rtys_86 : rtys Tryz.prog 86 = [24] := by kernel_rfl
@[simp] theorem flatF_86 : flatF Tryz.prog 86 = true := by kernel_rfl
@[simp] theorem bodyOk_86 : bodyOk Tryz.f86 = true := by kernel_rfl
@[simp] theorem okFn_87 : okFn Tryz.prog 87 = true := by kernel_rfl
@[simp] theorem ptys_87 : ptys Tryz.prog 87 = [83] := by kernel_rfl
@[simp] theorem rtys_87 : rtys Tryz.prog 87 = [4] := by kernel_rfl
@[simp] theorem flatF_87 : flatF Tryz.prog 87 = true := by kernel_rfl
@[simp] theorem bodyOk_87 : bodyOk Tryz.f87 = true := by kernel_rfl
@[simp] theorem okFn_88 : okFn Tryz.prog 88 = true := by kernel_rfl
@[simp] theorem ptys_88 : ptys Tryz.prog 88 = [63] := by kernel_rfl
@[simp] theorem rtys_88 : rtys Tryz.prog 88 = [118, 132] := by kernel_rfl
@[simp] theorem flatF_88 : flatF Tryz.prog 88 = false := by kernel_rfl
@[simp] theorem bodyOk_88 : bodyOk Tryz.f88 = true := by kernel_rfl
@[simp] theorem okFn_89 : okFn Tryz.prog 89 = true := by kernel_rfl
@[simp] theorem ptys_89 : ptys Tryz.prog 89 = [147] := by kernel_rfl
@[simp] theorem rtys_89 : rtys Tryz.prog 89 = [] := by kernel_rfl
@[simp] theorem flatF_89 : flatF Tryz.prog 89 = true := by kernel_rfl
@[simp] theorem bodyOk_89 : bodyOk Tryz.f89 = true := by kernel_rfl
@[simp] theorem okFn_90 : okFn Tryz.prog 90 = true := by kernel_rfl
@[simp] theorem ptys_90 : ptys Tryz.prog 90 = [22, 3] := by kernel_rfl
@[simp] theorem rtys_90 : rtys Tryz.prog 90 = [22] := by kernel_rfl
@[simp] theorem flatF_90 : flatF Tryz.prog 90 = true := by kernel_rfl
@[simp] theorem bodyOk_90 : bodyOk Tryz.f90 = true := by kernel_rfl
@[simp] theorem okFn_91 : okFn Tryz.prog 91 = true := by kernel_rfl
@[simp] theorem ptys_91 : ptys Tryz.prog 91 = [24] := by kernel_rfl
@[simp] theorem rtys_91 : rtys Tryz.prog 91 = [9] := by kernel_rfl
@[simp] theorem flatF_91 : flatF Tryz.prog 91 = true := by kernel_rfl
@[simp] theorem bodyOk_91 : bodyOk Tryz.f91 = true := by kernel_rfl
@[simp] theorem okFn_92 : okFn Tryz.prog 92 = true := by kernel_rfl
@[simp] theorem ptys_92 : ptys Tryz.prog 92 = [] := by kernel_rfl
@[simp] theorem rtys_92 : rtys Tryz.prog 92 = [138] := by kernel_rfl
@[simp] theorem flatF_92 : flatF Tryz.prog 92 = true := by kernel_rfl
@[simp] theorem bodyOk_92 : bodyOk Tryz.f92 = true := by kernel_rfl
@[simp] theorem okFn_93 : okFn Tryz.prog 93 = true := by kernel_rfl
@[simp] theorem ptys_93 : ptys Tryz.prog 93 = [22, 3] := by kernel_rfl
@[simp] theorem rtys_93 : rtys Tryz.prog 93 = [22] := by kernel_rfl
@[simp] theorem flatF_93 : flatF Tryz.prog 93 = true := by kernel_rfl
@[simp] theorem bodyOk_93 : bodyOk Tryz.f93 = true := by kernel_rfl
@[simp] theorem okFn_94 : okFn Tryz.prog 94 = true := by kernel_rfl
@[simp] theorem ptys_94 : ptys Tryz.prog 94 = [3] := by kernel_rfl
@[simp] theorem rtys_94 : rtys Tryz.prog 94 = [4] := by kernel_rfl
@[simp] theorem flatF_94 : flatF Tryz.prog 94 = true := by kernel_rfl
@[simp] theorem bodyOk_94 : bodyOk Tryz.f94 = true := by kernel_rfl
@[simp] theorem okFn_95 : okFn Tryz.prog 95 = true := by kernel_rfl
@[simp] theorem ptys_95 : ptys Tryz.prog 95 = [3] := by kernel_rfl
@[simp] theorem rtys_95 : rtys Tryz.prog 95 = [142] := by kernel_rfl
@[simp] theorem flatF_95 : flatF Tryz.prog 95 = true := by kernel_rfl
@[simp] theorem bodyOk_95 : bodyOk Tryz.f95 = true := by kernel_rfl
@[simp] theorem okFn_96 : okFn Tryz.prog 96 = true := by kernel_rfl
@[simp] theorem ptys_96 : ptys Tryz.prog 96 = [3, 3, 4] := by kernel_rfl
@[simp] theorem rtys_96 : rtys Tryz.prog 96 = [4] := by kernel_rfl
@[simp] theorem flatF_96 : flatF Tryz.prog 96 = true := by kernel_rfl
@[simp] theorem bodyOk_96 : bodyOk Tryz.f96 = true := by kernel_rfl
@[simp] theorem okFn_97 : okFn Tryz.prog 97 = true := by kernel_rfl
@[simp] theorem ptys_97 : ptys Tryz.prog 97 = [22] := by kernel_rfl
@[simp] theorem rtys_97 : rtys Tryz.prog 97 = [83, 36] := by kernel_rfl
@[simp] theorem flatF_97 : flatF Tryz.prog 97 = true := by kernel_rfl
@[simp] theorem bodyOk_97 : bodyOk Tryz.f97 = true := by kernel_rfl
@[simp] theorem okFn_98 : okFn Tryz.prog 98 = true := by kernel_rfl
@[simp] theorem ptys_98 : ptys Tryz.prog 98 = [147, 3, 22] := by kernel_rfl
@[simp] theorem rtys_98 : rtys Tryz.prog 98 = [] := by kernel_rfl
@[simp] theorem flatF_98 : flatF Tryz.prog 98 = true := by kernel_rfl
@[simp] theorem bodyOk_98 : bodyOk Tryz.f98 = true := by kernel_rfl
@[simp] theorem okFn_99 : okFn Tryz.prog 99 = true := by kernel_rfl
@[simp] theorem ptys_99 : ptys Tryz.prog 99 = [44, 22, 3] := by kernel_rfl
@[simp] theorem rtys_99 : rtys Tryz.prog 99 = [22, 4] := by kernel_rfl
@[simp] theorem flatF_99 : flatF Tryz.prog 99 = true := by kernel_rfl
@[simp] theorem bodyOk_99 : bodyOk Tryz.f99 = true := by kernel_rfl
@[simp] theorem okFn_100 : okFn Tryz.prog 100 = true := by kernel_rfl
@[simp] theorem ptys_100 : ptys Tryz.prog 100 = [147, 4, 3] := by kernel_rfl
@[simp] theorem rtys_100 : rtys Tryz.prog 100 = [] := by kernel_rfl
@[simp] theorem flatF_100 : flatF Tryz.prog 100 = true := by kernel_rfl
@[simp] theorem bodyOk_100 : bodyOk Tryz.f100 = true := by kernel_rfl
@[simp] theorem okFn_101 : okFn Tryz.prog 101 = true := by kernel_rfl
@[simp] theorem ptys_101 : ptys Tryz.prog 101 = [3, 22, 22] := by kernel_rfl
@[simp] theorem rtys_101 : rtys Tryz.prog 101 = [22, 36] := by kernel_rfl
@[simp] theorem flatF_101 : flatF Tryz.prog 101 = true := by kernel_rfl
@[simp] theorem bodyOk_101 : bodyOk Tryz.f101 = true := by kernel_rfl
@[simp] theorem okFn_102 : okFn Tryz.prog 102 = true := by kernel_rfl
@[simp] theorem ptys_102 : ptys Tryz.prog 102 = [22, 3] := by kernel_rfl
@[simp] theorem rtys_102 : rtys Tryz.prog 102 = [22] := by kernel_rfl
@[simp] theorem flatF_102 : flatF Tryz.prog 102 = true := by kernel_rfl
@[simp] theorem bodyOk_102 : bodyOk Tryz.f102 = true := by kernel_rfl
@[simp] theorem okFn_103 : okFn Tryz.prog 103 = true := by kernel_rfl
@[simp] theorem ptys_103 : ptys Tryz.prog 103 = [9] := by kernel_rfl
@[simp] theorem rtys_103 : rtys Tryz.prog 103 = [9] := by kernel_rfl
@[simp] theorem flatF_103 : flatF Tryz.prog 103 = true := by kernel_rfl
@[simp] theorem bodyOk_103 : bodyOk Tryz.f103 = true := by kernel_rfl
@[simp] theorem okFn_104 : okFn Tryz.prog 104 = true := by kernel_rfl
@[simp] theorem ptys_104 : ptys Tryz.prog 104 = [83] := by kernel_rfl
@[simp] theorem rtys_104 : rtys Tryz.prog 104 = [4] := by kernel_rfl
@[simp] theorem flatF_104 : flatF Tryz.prog 104 = true := by kernel_rfl
@[simp] theorem bodyOk_104 : bodyOk Tryz.f104 = true := by kernel_rfl
@[simp] theorem okFn_105 : okFn Tryz.prog 105 = true := by kernel_rfl
@[simp] theorem ptys_105 : ptys Tryz.prog 105 = [3, 22, 22] := by kernel_rfl
@[simp] theorem rtys_105 : rtys Tryz.prog 105 = [22] := by kernel_rfl
@[simp] theorem flatF_105 : flatF Tryz.prog 105 = true := by kernel_rfl
@[simp] theorem bodyOk_105 : bodyOk Tryz.f105 = true := by kernel_rfl
@[simp] theorem okFn_106 : okFn Tryz.prog 106 = true := by kernel_rfl
@[simp] theorem ptys_106 : ptys Tryz.prog 106 = [3, 22, 22] := by kernel_rfl
@[simp] theorem rtys_106 : rtys Tryz.prog 106 = [22] := by kernel_rfl
@[simp] theorem flatF_106 : flatF Tryz.prog 106 = true := by kernel_rfl
@[simp] theorem bodyOk_106 : bodyOk Tryz.f106 = true := by kernel_rfl
@[simp] theorem okFn_107 : okFn Tryz.prog 107 = true := by kernel_rfl
@[simp] theorem ptys_107 : ptys Tryz.prog 107 = [4] := by kernel_rfl
@[simp] theorem rtys_107 : rtys Tryz.prog 107 = [22] := by kernel_rfl
@[simp] theorem flatF_107 : flatF Tryz.prog 107 = true := by kernel_rfl
@[simp] theorem bodyOk_107 : bodyOk Tryz.f107 = true := by kernel_rfl
@[simp] theorem okFn_108 : okFn Tryz.prog 108 = true := by kernel_rfl
@[simp] theorem ptys_108 : ptys Tryz.prog 108 = [3] := by kernel_rfl
@[simp] theorem rtys_108 : rtys Tryz.prog 108 = [5] := by kernel_rfl
@[simp] theorem flatF_108 : flatF Tryz.prog 108 = true := by kernel_rfl
@[simp] theorem bodyOk_108 : bodyOk Tryz.f108 = true := by kernel_rfl
@[simp] theorem okFn_109 : okFn Tryz.prog 109 = true := by kernel_rfl
@[simp] theorem ptys_109 : ptys Tryz.prog 109 = [3] := by kernel_rfl
@[simp] theorem rtys_109 : rtys Tryz.prog 109 = [9] := by kernel_rfl
@[simp] theorem flatF_109 : flatF Tryz.prog 109 = true := by kernel_rfl
@[simp] theorem bodyOk_109 : bodyOk Tryz.f109 = true := by kernel_rfl
@[simp] theorem okFn_110 : okFn Tryz.prog 110 = true := by kernel_rfl
@[simp] theorem ptys_110 : ptys Tryz.prog 110 = [9, 5] := by kernel_rfl
@[simp] theorem rtys_110 : rtys Tryz.prog 110 = [4] := by kernel_rfl
@[simp] theorem flatF_110 : flatF Tryz.prog 110 = true := by kernel_rfl
@[simp] theorem bodyOk_110 : bodyOk Tryz.f110 = true := by kernel_rfl
@[simp] theorem okFn_111 : okFn Tryz.prog 111 = true := by kernel_rfl
@[simp] theorem ptys_111 : ptys Tryz.prog 111 = [4, 3, 3] := by kernel_rfl
@[simp] theorem rtys_111 : rtys Tryz.prog 111 = [4] := by kernel_rfl
@[simp] theorem flatF_111 : flatF Tryz.prog 111 = true := by kernel_rfl
@[simp] theorem bodyOk_111 : bodyOk Tryz.f111 = true := by kernel_rfl
@[simp] theorem okFn_112 : okFn Tryz.prog 112 = true := by kernel_rfl
@[simp] theorem ptys_112 : ptys Tryz.prog 112 = [22] := by kernel_rfl
@[simp] theorem rtys_112 : rtys Tryz.prog 112 = [111] := by kernel_rfl
@[simp] theorem flatF_112 : flatF Tryz.prog 112 = false := by kernel_rfl
@[simp] theorem bodyOk_112 : bodyOk Tryz.f112 = true := by kernel_rfl
@[simp] theorem okFn_113 : okFn Tryz.prog 113 = true := by kernel_rfl
@[simp] theorem ptys_113 : ptys Tryz.prog 113 = [111] := by kernel_rfl
@[simp] theorem rtys_113 : rtys Tryz.prog 113 = [22] := by kernel_rfl
@[simp] theorem flatF_113 : flatF Tryz.prog 113 = true := by kernel_rfl
@[simp] theorem bodyOk_113 : bodyOk Tryz.f113 = true := by kernel_rfl
end Go.Proofs.YtdokejnokhicbaaGreatDoor
