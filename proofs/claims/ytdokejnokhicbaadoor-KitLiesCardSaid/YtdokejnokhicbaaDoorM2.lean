/- Law 47: facts of the program. -/
import Derived.KernelRfl
import Derived.Test.YtdokejnokhicbaaDoorProg
import Derived.Test.YtdokejnokhicbaaDoorK3
namespace Go.Proofs.YtdokejnokhicbaaDoor
open Go Go.Ab
set_option linter.unusedSimpArgs false
set_option linter.unusedVariables false

@[simp] theorem cellsOf_0 : Tryd.prog.cellsOf 0 = 1 := by kernel_rfl
@[simp] theorem bytesOf_0 : Tryd.prog.bytesOf 0 = 0 := by kernel_rfl
@[simp] theorem slel_0 : slel Tryd.prog 0 = none := by kernel_rfl
@[simp] theorem isAggB_0 : isAggB Tryd.prog 0 = false := by kernel_rfl
@[simp] theorem tOk_0 : tOk Tryd.prog 0 = true := by kernel_rfl
@[simp] theorem arrOf_0 : arrOf Tryd.prog 0 = none := by kernel_rfl
@[simp] theorem strB_0 : strB Tryd.prog 0 = false := by kernel_rfl
@[simp] theorem bolB_0 : bolB Tryd.prog 0 = false := by kernel_rfl
@[simp] theorem mapB_0 : mapB Tryd.prog 0 = false := by kernel_rfl
@[simp] theorem intK_0 : intK Tryd.prog 0 = none := by kernel_rfl
@[simp] theorem zrow_0 : zrow Tryd.prog 0 = none := by kernel_rfl
@[simp] theorem bldOk_0 : bldOk Tryd.prog 0 = false := by kernel_rfl
@[simp] theorem tcs_0 : tcs Tryd.prog 0 = [0] := by kernel_rfl
@[simp] theorem srcT_0 : srcT Tryd.prog 0 = false := by kernel_rfl
@[simp] theorem zok_0 : zok Tryd.prog 0 = true := by kernel_rfl
@[simp] theorem flds_0 : flds Tryd.prog 0 = [] := by kernel_rfl
@[simp] theorem zeros_0 : zeros Tryd.prog 0 = some [Value.tuple { toList := [] }] := by kernel_rfl
@[simp] theorem isinfo_0 : (Tryd.prog.info? 0).isSome = true := by kernel_rfl
@[simp] theorem isund_0 : (Tryd.prog.underlying 0).isSome = true := by kernel_rfl
@[simp] theorem cellsOf_1 : Tryd.prog.cellsOf 1 = 1 := by kernel_rfl
@[simp] theorem bytesOf_1 : Tryd.prog.bytesOf 1 = 8 := by kernel_rfl
@[simp] theorem slel_1 : slel Tryd.prog 1 = none := by kernel_rfl
@[simp] theorem isAggB_1 : isAggB Tryd.prog 1 = false := by kernel_rfl
@[simp] theorem tOk_1 : tOk Tryd.prog 1 = true := by kernel_rfl
@[simp] theorem arrOf_1 : arrOf Tryd.prog 1 = none := by kernel_rfl
@[simp] theorem strB_1 : strB Tryd.prog 1 = false := by kernel_rfl
@[simp] theorem bolB_1 : bolB Tryd.prog 1 = false := by kernel_rfl
@[simp] theorem mapB_1 : mapB Tryd.prog 1 = false := by kernel_rfl
@[simp] theorem intK_1 : intK Tryd.prog 1 = none := by kernel_rfl
@[simp] theorem zrow_1 : zrow Tryd.prog 1 = some [AV.sc Value.nilFunc] := by kernel_rfl
@[simp] theorem bldOk_1 : bldOk Tryd.prog 1 = false := by kernel_rfl
@[simp] theorem tcs_1 : tcs Tryd.prog 1 = [1] := by kernel_rfl
@[simp] theorem srcT_1 : srcT Tryd.prog 1 = false := by kernel_rfl
@[simp] theorem zok_1 : zok Tryd.prog 1 = true := by kernel_rfl
@[simp] theorem flds_1 : flds Tryd.prog 1 = [] := by kernel_rfl
@[simp] theorem zeros_1 : zeros Tryd.prog 1 = some [Value.nilFunc] := by kernel_rfl
@[simp] theorem isinfo_1 : (Tryd.prog.info? 1).isSome = true := by kernel_rfl
@[simp] theorem isund_1 : (Tryd.prog.underlying 1).isSome = true := by kernel_rfl
@[simp] theorem cellsOf_2 : Tryd.prog.cellsOf 2 = 1 := by kernel_rfl
@[simp] theorem bytesOf_2 : Tryd.prog.bytesOf 2 = 8 := by kernel_rfl
@[simp] theorem slel_2 : slel Tryd.prog 2 = none := by kernel_rfl
@[simp] theorem isAggB_2 : isAggB Tryd.prog 2 = false := by kernel_rfl
@[simp] theorem tOk_2 : tOk Tryd.prog 2 = true := by kernel_rfl
@[simp] theorem arrOf_2 : arrOf Tryd.prog 2 = none := by kernel_rfl
@[simp] theorem strB_2 : strB Tryd.prog 2 = false := by kernel_rfl
@[simp] theorem bolB_2 : bolB Tryd.prog 2 = false := by kernel_rfl
@[simp] theorem mapB_2 : mapB Tryd.prog 2 = false := by kernel_rfl
@[simp] theorem intK_2 : intK Tryd.prog 2 = some IntKind.i64 := by kernel_rfl
@[simp] theorem zrow_2 : zrow Tryd.prog 2 = some [AV.sc (Value.int IntKind.i64 0)] := by kernel_rfl
@[simp] theorem bldOk_2 : bldOk Tryd.prog 2 = false := by kernel_rfl
@[simp] theorem tcs_2 : tcs Tryd.prog 2 = [2] := by kernel_rfl
@[simp] theorem srcT_2 : srcT Tryd.prog 2 = false := by kernel_rfl
@[simp] theorem zok_2 : zok Tryd.prog 2 = true := by kernel_rfl
@[simp] theorem flds_2 : flds Tryd.prog 2 = [] := by kernel_rfl
@[simp] theorem zeros_2 : zeros Tryd.prog 2 = some [Value.int IntKind.i64 0] := by kernel_rfl
@[simp] theorem isinfo_2 : (Tryd.prog.info? 2).isSome = true := by kernel_rfl
@[simp] theorem isund_2 : (Tryd.prog.underlying 2).isSome = true := by kernel_rfl
@[simp] theorem cellsOf_3 : Tryd.prog.cellsOf 3 = 1 := by kernel_rfl
@[simp] theorem bytesOf_3 : Tryd.prog.bytesOf 3 = 8 := by kernel_rfl
@[simp] theorem slel_3 : slel Tryd.prog 3 = none := by kernel_rfl
@[simp] theorem isAggB_3 : isAggB Tryd.prog 3 = false := by kernel_rfl
@[simp] theorem tOk_3 : tOk Tryd.prog 3 = true := by kernel_rfl
@[simp] theorem arrOf_3 : arrOf Tryd.prog 3 = none := by kernel_rfl
@[simp] theorem strB_3 : strB Tryd.prog 3 = false := by kernel_rfl
@[simp] theorem bolB_3 : bolB Tryd.prog 3 = false := by kernel_rfl
@[simp] theorem mapB_3 : mapB Tryd.prog 3 = false := by kernel_rfl
@[simp] theorem intK_3 : intK Tryd.prog 3 = some IntKind.i64 := by kernel_rfl
@[simp] theorem zrow_3 : zrow Tryd.prog 3 = some [AV.sc (Value.int IntKind.i64 0)] := by kernel_rfl
@[simp] theorem bldOk_3 : bldOk Tryd.prog 3 = false := by kernel_rfl
@[simp] theorem tcs_3 : tcs Tryd.prog 3 = [3] := by kernel_rfl
@[simp] theorem srcT_3 : srcT Tryd.prog 3 = false := by kernel_rfl
@[simp] theorem zok_3 : zok Tryd.prog 3 = true := by kernel_rfl
@[simp] theorem flds_3 : flds Tryd.prog 3 = [] := by kernel_rfl
@[simp] theorem zeros_3 : zeros Tryd.prog 3 = some [Value.int IntKind.i64 0] := by kernel_rfl
@[simp] theorem isinfo_3 : (Tryd.prog.info? 3).isSome = true := by kernel_rfl
@[simp] theorem isund_3 : (Tryd.prog.underlying 3).isSome = true := by kernel_rfl
@[simp] theorem cellsOf_4 : Tryd.prog.cellsOf 4 = 1 := by kernel_rfl
@[simp] theorem bytesOf_4 : Tryd.prog.bytesOf 4 = 1 := by kernel_rfl
@[simp] theorem slel_4 : slel Tryd.prog 4 = none := by kernel_rfl
@[simp] theorem isAggB_4 : isAggB Tryd.prog 4 = false := by kernel_rfl
@[simp] theorem tOk_4 : tOk Tryd.prog 4 = true := by kernel_rfl
@[simp] theorem arrOf_4 : arrOf Tryd.prog 4 = none := by kernel_rfl
@[simp] theorem strB_4 : strB Tryd.prog 4 = false := by kernel_rfl
@[simp] theorem bolB_4 : bolB Tryd.prog 4 = true := by kernel_rfl
@[simp] theorem mapB_4 : mapB Tryd.prog 4 = false := by kernel_rfl
@[simp] theorem intK_4 : intK Tryd.prog 4 = none := by kernel_rfl
@[simp] theorem zrow_4 : zrow Tryd.prog 4 = some [AV.sc (Value.bool false)] := by kernel_rfl
@[simp] theorem bldOk_4 : bldOk Tryd.prog 4 = false := by kernel_rfl
@[simp] theorem tcs_4 : tcs Tryd.prog 4 = [4] := by kernel_rfl
@[simp] theorem srcT_4 : srcT Tryd.prog 4 = false := by kernel_rfl
@[simp] theorem zok_4 : zok Tryd.prog 4 = true := by kernel_rfl
@[simp] theorem flds_4 : flds Tryd.prog 4 = [] := by kernel_rfl
@[simp] theorem zeros_4 : zeros Tryd.prog 4 = some [Value.bool false] := by kernel_rfl
@[simp] theorem isinfo_4 : (Tryd.prog.info? 4).isSome = true := by kernel_rfl
@[simp] theorem isund_4 : (Tryd.prog.underlying 4).isSome = true := by kernel_rfl
@[simp] theorem cellsOf_5 : Tryd.prog.cellsOf 5 = 1 := by kernel_rfl
@[simp] theorem bytesOf_5 : Tryd.prog.bytesOf 5 = 1 := by kernel_rfl
@[simp] theorem slel_5 : slel Tryd.prog 5 = none := by kernel_rfl
@[simp] theorem isAggB_5 : isAggB Tryd.prog 5 = false := by kernel_rfl
@[simp] theorem tOk_5 : tOk Tryd.prog 5 = true := by kernel_rfl
@[simp] theorem arrOf_5 : arrOf Tryd.prog 5 = none := by kernel_rfl
@[simp] theorem strB_5 : strB Tryd.prog 5 = false := by kernel_rfl
@[simp] theorem bolB_5 : bolB Tryd.prog 5 = false := by kernel_rfl
@[simp] theorem mapB_5 : mapB Tryd.prog 5 = false := by kernel_rfl
@[simp] theorem intK_5 : intK Tryd.prog 5 = some IntKind.u8 := by kernel_rfl
@[simp] theorem zrow_5 : zrow Tryd.prog 5 = some [AV.sc (Value.int IntKind.u8 0)] := by kernel_rfl
@[simp] theorem bldOk_5 : bldOk Tryd.prog 5 = false := by kernel_rfl
@[simp] theorem tcs_5 : tcs Tryd.prog 5 = [5] := by kernel_rfl
@[simp] theorem srcT_5 : srcT Tryd.prog 5 = false := by kernel_rfl
@[simp] theorem zok_5 : zok Tryd.prog 5 = true := by kernel_rfl
@[simp] theorem flds_5 : flds Tryd.prog 5 = [] := by kernel_rfl
@[simp] theorem zeros_5 : zeros Tryd.prog 5 = some [Value.int IntKind.u8 0] := by kernel_rfl
@[simp] theorem isinfo_5 : (Tryd.prog.info? 5).isSome = true := by kernel_rfl
@[simp] theorem isund_5 : (Tryd.prog.underlying 5).isSome = true := by kernel_rfl
@[simp] theorem cellsOf_6 : Tryd.prog.cellsOf 6 = 1 := by kernel_rfl
@[simp] theorem bytesOf_6 : Tryd.prog.bytesOf 6 = 1 := by kernel_rfl
@[simp] theorem slel_6 : slel Tryd.prog 6 = none := by kernel_rfl
@[simp] theorem isAggB_6 : isAggB Tryd.prog 6 = false := by kernel_rfl
@[simp] theorem tOk_6 : tOk Tryd.prog 6 = true := by kernel_rfl
@[simp] theorem arrOf_6 : arrOf Tryd.prog 6 = none := by kernel_rfl
@[simp] theorem strB_6 : strB Tryd.prog 6 = false := by kernel_rfl
@[simp] theorem bolB_6 : bolB Tryd.prog 6 = false := by kernel_rfl
@[simp] theorem mapB_6 : mapB Tryd.prog 6 = false := by kernel_rfl
@[simp] theorem intK_6 : intK Tryd.prog 6 = some IntKind.u8 := by kernel_rfl
@[simp] theorem zrow_6 : zrow Tryd.prog 6 = some [AV.sc (Value.int IntKind.u8 0)] := by kernel_rfl
@[simp] theorem bldOk_6 : bldOk Tryd.prog 6 = false := by kernel_rfl
@[simp] theorem tcs_6 : tcs Tryd.prog 6 = [6] := by kernel_rfl
@[simp] theorem srcT_6 : srcT Tryd.prog 6 = false := by kernel_rfl
@[simp] theorem zok_6 : zok Tryd.prog 6 = true := by kernel_rfl
@[simp] theorem flds_6 : flds Tryd.prog 6 = [] := by kernel_rfl
@[simp] theorem zeros_6 : zeros Tryd.prog 6 = some [Value.int IntKind.u8 0] := by kernel_rfl
@[simp] theorem isinfo_6 : (Tryd.prog.info? 6).isSome = true := by kernel_rfl
@[simp] theorem isund_6 : (Tryd.prog.underlying 6).isSome = true := by kernel_rfl
@[simp] theorem cellsOf_7 : Tryd.prog.cellsOf 7 = 4 := by kernel_rfl
@[simp] theorem bytesOf_7 : Tryd.prog.bytesOf 7 = 24 := by kernel_rfl
@[simp] theorem slel_7 : slel Tryd.prog 7 = none := by kernel_rfl
@[simp] theorem isAggB_7 : isAggB Tryd.prog 7 = true := by kernel_rfl
@[simp] theorem tOk_7 : tOk Tryd.prog 7 = true := by kernel_rfl
@[simp] theorem arrOf_7 : arrOf Tryd.prog 7 = none := by kernel_rfl
@[simp] theorem strB_7 : strB Tryd.prog 7 = false := by kernel_rfl
@[simp] theorem bolB_7 : bolB Tryd.prog 7 = false := by kernel_rfl
@[simp] theorem mapB_7 : mapB Tryd.prog 7 = false := by kernel_rfl
@[simp] theorem intK_7 : intK Tryd.prog 7 = none := by kernel_rfl
@[simp] theorem zrow_7 : zrow Tryd.prog 7 = some [AV.sc (Value.int IntKind.i64 0), AV.sc (Value.int IntKind.i64 0), AV.sc (Value.bool false), AV.sc (Value.int IntKind.u8 0)] := by kernel_rfl
@[simp] theorem bldOk_7 : bldOk Tryd.prog 7 = true := by kernel_rfl
@[simp] theorem tcs_7 : tcs Tryd.prog 7 = [2, 3, 4, 6] := by kernel_rfl
@[simp] theorem srcT_7 : srcT Tryd.prog 7 = false := by kernel_rfl
@[simp] theorem zok_7 : zok Tryd.prog 7 = true := by kernel_rfl
@[simp] theorem flds_7 : flds Tryd.prog 7 = [(0, 1, 2), (1, 1, 3), (2, 1, 4), (3, 1, 6)] := by kernel_rfl
@[simp] theorem zeros_7 : zeros Tryd.prog 7 = some [Value.int IntKind.i64 0, Value.int IntKind.i64 0, Value.bool false, Value.int IntKind.u8 0] := by kernel_rfl
@[simp] theorem isinfo_7 : (Tryd.prog.info? 7).isSome = true := by kernel_rfl
@[simp] theorem isund_7 : (Tryd.prog.underlying 7).isSome = true := by kernel_rfl
@[simp] theorem cellsOf_8 : Tryd.prog.cellsOf 8 = 4 := by kernel_rfl
@[simp] theorem bytesOf_8 : Tryd.prog.bytesOf 8 = 24 := by kernel_rfl
@[simp] theorem slel_8 : slel Tryd.prog 8 = none := by kernel_rfl
@[simp] theorem isAggB_8 : isAggB Tryd.prog 8 = true := by kernel_rfl
@[simp] theorem tOk_8 : tOk Tryd.prog 8 = true := by kernel_rfl
@[simp] theorem arrOf_8 : arrOf Tryd.prog 8 = none := by kernel_rfl
@[simp] theorem strB_8 : strB Tryd.prog 8 = false := by kernel_rfl
@[simp] theorem bolB_8 : bolB Tryd.prog 8 = false := by kernel_rfl
@[simp] theorem mapB_8 : mapB Tryd.prog 8 = false := by kernel_rfl
@[simp] theorem intK_8 : intK Tryd.prog 8 = none := by kernel_rfl
@[simp] theorem zrow_8 : zrow Tryd.prog 8 = some [AV.sc (Value.int IntKind.i64 0), AV.sc (Value.int IntKind.i64 0), AV.sc (Value.bool false), AV.sc (Value.int IntKind.u8 0)] := by kernel_rfl
@[simp] theorem bldOk_8 : bldOk Tryd.prog 8 = true := by kernel_rfl
@[simp] theorem tcs_8 : tcs Tryd.prog 8 = [2, 3, 4, 6] := by kernel_rfl
@[simp] theorem srcT_8 : srcT Tryd.prog 8 = false := by kernel_rfl
@[simp] theorem zok_8 : zok Tryd.prog 8 = true := by kernel_rfl
@[simp] theorem flds_8 : flds Tryd.prog 8 = [(0, 1, 2), (1, 1, 3), (2, 1, 4), (3, 1, 6)] := by kernel_rfl
@[simp] theorem zeros_8 : zeros Tryd.prog 8 = some [Value.int IntKind.i64 0, Value.int IntKind.i64 0, Value.bool false, Value.int IntKind.u8 0] := by kernel_rfl
@[simp] theorem isinfo_8 : (Tryd.prog.info? 8).isSome = true := by kernel_rfl
@[simp] theorem isund_8 : (Tryd.prog.underlying 8).isSome = true := by kernel_rfl
@[simp] theorem cellsOf_9 : Tryd.prog.cellsOf 9 = 1 := by kernel_rfl
@[simp] theorem bytesOf_9 : Tryd.prog.bytesOf 9 = 16 := by kernel_rfl
@[simp] theorem slel_9 : slel Tryd.prog 9 = none := by kernel_rfl
@[simp] theorem isAggB_9 : isAggB Tryd.prog 9 = false := by kernel_rfl
@[simp] theorem tOk_9 : tOk Tryd.prog 9 = true := by kernel_rfl
@[simp] theorem arrOf_9 : arrOf Tryd.prog 9 = none := by kernel_rfl
@[simp] theorem strB_9 : strB Tryd.prog 9 = true := by kernel_rfl
@[simp] theorem bolB_9 : bolB Tryd.prog 9 = false := by kernel_rfl
@[simp] theorem mapB_9 : mapB Tryd.prog 9 = false := by kernel_rfl
@[simp] theorem intK_9 : intK Tryd.prog 9 = none := by kernel_rfl
@[simp] theorem zrow_9 : zrow Tryd.prog 9 = some [AV.sc (Value.string { data := { toList := [] } })] := by kernel_rfl
@[simp] theorem bldOk_9 : bldOk Tryd.prog 9 = false := by kernel_rfl
@[simp] theorem tcs_9 : tcs Tryd.prog 9 = [9] := by kernel_rfl
@[simp] theorem srcT_9 : srcT Tryd.prog 9 = true := by kernel_rfl
@[simp] theorem zok_9 : zok Tryd.prog 9 = true := by kernel_rfl
@[simp] theorem flds_9 : flds Tryd.prog 9 = [] := by kernel_rfl
@[simp] theorem zeros_9 : zeros Tryd.prog 9 = some [Value.string { data := { toList := [] } }] := by kernel_rfl
@[simp] theorem isinfo_9 : (Tryd.prog.info? 9).isSome = true := by kernel_rfl
@[simp] theorem isund_9 : (Tryd.prog.underlying 9).isSome = true := by kernel_rfl
@[simp] theorem cellsOf_16 : Tryd.prog.cellsOf 16 = 1 := by kernel_rfl
@[simp] theorem bytesOf_16 : Tryd.prog.bytesOf 16 = 8 := by kernel_rfl
@[simp] theorem slel_16 : slel Tryd.prog 16 = none := by kernel_rfl
@[simp] theorem isAggB_16 : isAggB Tryd.prog 16 = false := by kernel_rfl
@[simp] theorem tOk_16 : tOk Tryd.prog 16 = true := by kernel_rfl
@[simp] theorem arrOf_16 : arrOf Tryd.prog 16 = none := by kernel_rfl
@[simp] theorem strB_16 : strB Tryd.prog 16 = false := by kernel_rfl
@[simp] theorem bolB_16 : bolB Tryd.prog 16 = false := by kernel_rfl
@[simp] theorem mapB_16 : mapB Tryd.prog 16 = false := by kernel_rfl
@[simp] theorem intK_16 : intK Tryd.prog 16 = none := by kernel_rfl
@[simp] theorem zrow_16 : zrow Tryd.prog 16 = some [AV.sc (Value.pointer none)] := by kernel_rfl
@[simp] theorem bldOk_16 : bldOk Tryd.prog 16 = false := by kernel_rfl
@[simp] theorem tcs_16 : tcs Tryd.prog 16 = [16] := by kernel_rfl
@[simp] theorem srcT_16 : srcT Tryd.prog 16 = false := by kernel_rfl
@[simp] theorem zok_16 : zok Tryd.prog 16 = true := by kernel_rfl
@[simp] theorem flds_16 : flds Tryd.prog 16 = [] := by kernel_rfl
@[simp] theorem zeros_16 : zeros Tryd.prog 16 = some [Value.pointer none] := by kernel_rfl
@[simp] theorem isinfo_16 : (Tryd.prog.info? 16).isSome = true := by kernel_rfl
@[simp] theorem isund_16 : (Tryd.prog.underlying 16).isSome = true := by kernel_rfl
@[simp] theorem cellsOf_17 : Tryd.prog.cellsOf 17 = 1 := by kernel_rfl
@[simp] theorem bytesOf_17 : Tryd.prog.bytesOf 17 = 8 := by kernel_rfl
@[simp] theorem slel_17 : slel Tryd.prog 17 = none := by kernel_rfl
@[simp] theorem isAggB_17 : isAggB Tryd.prog 17 = false := by kernel_rfl
@[simp] theorem tOk_17 : tOk Tryd.prog 17 = true := by kernel_rfl
@[simp] theorem arrOf_17 : arrOf Tryd.prog 17 = none := by kernel_rfl
@[simp] theorem strB_17 : strB Tryd.prog 17 = false := by kernel_rfl
@[simp] theorem bolB_17 : bolB Tryd.prog 17 = false := by kernel_rfl
@[simp] theorem mapB_17 : mapB Tryd.prog 17 = false := by kernel_rfl
@[simp] theorem intK_17 : intK Tryd.prog 17 = none := by kernel_rfl
@[simp] theorem zrow_17 : zrow Tryd.prog 17 = some [AV.sc (Value.pointer none)] := by kernel_rfl
@[simp] theorem bldOk_17 : bldOk Tryd.prog 17 = false := by kernel_rfl
@[simp] theorem tcs_17 : tcs Tryd.prog 17 = [17] := by kernel_rfl
@[simp] theorem srcT_17 : srcT Tryd.prog 17 = false := by kernel_rfl
@[simp] theorem zok_17 : zok Tryd.prog 17 = true := by kernel_rfl
@[simp] theorem flds_17 : flds Tryd.prog 17 = [] := by kernel_rfl
@[simp] theorem zeros_17 : zeros Tryd.prog 17 = some [Value.pointer none] := by kernel_rfl
@[simp] theorem isinfo_17 : (Tryd.prog.info? 17).isSome = true := by kernel_rfl
@[simp] theorem isund_17 : (Tryd.prog.underlying 17).isSome = true := by kernel_rfl
@[simp] theorem cellsOf_18 : Tryd.prog.cellsOf 18 = 1 := by kernel_rfl
@[simp] theorem bytesOf_18 : Tryd.prog.bytesOf 18 = 8 := by kernel_rfl
@[simp] theorem slel_18 : slel Tryd.prog 18 = none := by kernel_rfl
@[simp] theorem isAggB_18 : isAggB Tryd.prog 18 = true := by kernel_rfl
@[simp] theorem tOk_18 : tOk Tryd.prog 18 = true := by kernel_rfl
@[simp] theorem arrOf_18 : arrOf Tryd.prog 18 = none := by kernel_rfl
@[simp] theorem strB_18 : strB Tryd.prog 18 = false := by kernel_rfl
@[simp] theorem bolB_18 : bolB Tryd.prog 18 = false := by kernel_rfl
@[simp] theorem mapB_18 : mapB Tryd.prog 18 = false := by kernel_rfl
@[simp] theorem intK_18 : intK Tryd.prog 18 = none := by kernel_rfl
@[simp] theorem zrow_18 : zrow Tryd.prog 18 = some [AV.sc (Value.pointer none)] := by kernel_rfl
@[simp] theorem bldOk_18 : bldOk Tryd.prog 18 = true := by kernel_rfl
@[simp] theorem tcs_18 : tcs Tryd.prog 18 = [17] := by kernel_rfl
@[simp] theorem srcT_18 : srcT Tryd.prog 18 = false := by kernel_rfl
@[simp] theorem zok_18 : zok Tryd.prog 18 = true := by kernel_rfl
@[simp] theorem flds_18 : flds Tryd.prog 18 = [(0, 1, 17)] := by kernel_rfl
@[simp] theorem zeros_18 : zeros Tryd.prog 18 = some [Value.pointer none] := by kernel_rfl
@[simp] theorem isinfo_18 : (Tryd.prog.info? 18).isSome = true := by kernel_rfl
@[simp] theorem isund_18 : (Tryd.prog.underlying 18).isSome = true := by kernel_rfl
@[simp] theorem cellsOf_19 : Tryd.prog.cellsOf 19 = 1 := by kernel_rfl
@[simp] theorem bytesOf_19 : Tryd.prog.bytesOf 19 = 8 := by kernel_rfl
@[simp] theorem slel_19 : slel Tryd.prog 19 = none := by kernel_rfl
@[simp] theorem isAggB_19 : isAggB Tryd.prog 19 = true := by kernel_rfl
@[simp] theorem tOk_19 : tOk Tryd.prog 19 = true := by kernel_rfl
@[simp] theorem arrOf_19 : arrOf Tryd.prog 19 = none := by kernel_rfl
@[simp] theorem strB_19 : strB Tryd.prog 19 = false := by kernel_rfl
@[simp] theorem bolB_19 : bolB Tryd.prog 19 = false := by kernel_rfl
@[simp] theorem mapB_19 : mapB Tryd.prog 19 = false := by kernel_rfl
@[simp] theorem intK_19 : intK Tryd.prog 19 = none := by kernel_rfl
@[simp] theorem zrow_19 : zrow Tryd.prog 19 = some [AV.sc (Value.pointer none)] := by kernel_rfl
@[simp] theorem bldOk_19 : bldOk Tryd.prog 19 = true := by kernel_rfl
@[simp] theorem tcs_19 : tcs Tryd.prog 19 = [17] := by kernel_rfl
@[simp] theorem srcT_19 : srcT Tryd.prog 19 = false := by kernel_rfl
@[simp] theorem zok_19 : zok Tryd.prog 19 = true := by kernel_rfl
@[simp] theorem flds_19 : flds Tryd.prog 19 = [(0, 1, 17)] := by kernel_rfl
@[simp] theorem zeros_19 : zeros Tryd.prog 19 = some [Value.pointer none] := by kernel_rfl
@[simp] theorem isinfo_19 : (Tryd.prog.info? 19).isSome = true := by kernel_rfl
@[simp] theorem isund_19 : (Tryd.prog.underlying 19).isSome = true := by kernel_rfl
@[simp] theorem cellsOf_20 : Tryd.prog.cellsOf 20 = 1 := by kernel_rfl
@[simp] theorem bytesOf_20 : Tryd.prog.bytesOf 20 = 16 := by kernel_rfl
@[simp] theorem slel_20 : slel Tryd.prog 20 = none := by kernel_rfl
@[simp] theorem isAggB_20 : isAggB Tryd.prog 20 = false := by kernel_rfl
@[simp] theorem tOk_20 : tOk Tryd.prog 20 = true := by kernel_rfl
@[simp] theorem arrOf_20 : arrOf Tryd.prog 20 = none := by kernel_rfl
@[simp] theorem strB_20 : strB Tryd.prog 20 = false := by kernel_rfl
@[simp] theorem bolB_20 : bolB Tryd.prog 20 = false := by kernel_rfl
@[simp] theorem mapB_20 : mapB Tryd.prog 20 = false := by kernel_rfl
@[simp] theorem intK_20 : intK Tryd.prog 20 = none := by kernel_rfl
@[simp] theorem zrow_20 : zrow Tryd.prog 20 = some [AV.sc Value.nilIface] := by kernel_rfl
@[simp] theorem bldOk_20 : bldOk Tryd.prog 20 = false := by kernel_rfl
@[simp] theorem tcs_20 : tcs Tryd.prog 20 = [20] := by kernel_rfl
@[simp] theorem srcT_20 : srcT Tryd.prog 20 = false := by kernel_rfl
@[simp] theorem zok_20 : zok Tryd.prog 20 = true := by kernel_rfl
@[simp] theorem flds_20 : flds Tryd.prog 20 = [] := by kernel_rfl
@[simp] theorem zeros_20 : zeros Tryd.prog 20 = some [Value.nilIface] := by kernel_rfl
@[simp] theorem isinfo_20 : (Tryd.prog.info? 20).isSome = true := by kernel_rfl
@[simp] theorem isund_20 : (Tryd.prog.underlying 20).isSome = true := by kernel_rfl
@[simp] theorem cellsOf_21 : Tryd.prog.cellsOf 21 = 1 := by kernel_rfl
@[simp] theorem bytesOf_21 : Tryd.prog.bytesOf 21 = 4 := by kernel_rfl
@[simp] theorem slel_21 : slel Tryd.prog 21 = none := by kernel_rfl
@[simp] theorem isAggB_21 : isAggB Tryd.prog 21 = false := by kernel_rfl
@[simp] theorem tOk_21 : tOk Tryd.prog 21 = true := by kernel_rfl
@[simp] theorem arrOf_21 : arrOf Tryd.prog 21 = none := by kernel_rfl
@[simp] theorem strB_21 : strB Tryd.prog 21 = false := by kernel_rfl
@[simp] theorem bolB_21 : bolB Tryd.prog 21 = false := by kernel_rfl
@[simp] theorem mapB_21 : mapB Tryd.prog 21 = false := by kernel_rfl
@[simp] theorem intK_21 : intK Tryd.prog 21 = some IntKind.i32 := by kernel_rfl
@[simp] theorem zrow_21 : zrow Tryd.prog 21 = some [AV.sc (Value.int IntKind.i32 0)] := by kernel_rfl
@[simp] theorem bldOk_21 : bldOk Tryd.prog 21 = false := by kernel_rfl
@[simp] theorem tcs_21 : tcs Tryd.prog 21 = [21] := by kernel_rfl
@[simp] theorem srcT_21 : srcT Tryd.prog 21 = false := by kernel_rfl
@[simp] theorem zok_21 : zok Tryd.prog 21 = true := by kernel_rfl
@[simp] theorem flds_21 : flds Tryd.prog 21 = [] := by kernel_rfl
@[simp] theorem zeros_21 : zeros Tryd.prog 21 = some [Value.int IntKind.i32 0] := by kernel_rfl
@[simp] theorem isinfo_21 : (Tryd.prog.info? 21).isSome = true := by kernel_rfl
@[simp] theorem isund_21 : (Tryd.prog.underlying 21).isSome = true := by kernel_rfl
@[simp] theorem cellsOf_22 : Tryd.prog.cellsOf 22 = 1 := by kernel_rfl
@[simp] theorem bytesOf_22 : Tryd.prog.bytesOf 22 = 24 := by kernel_rfl
@[simp] theorem slel_22 : slel Tryd.prog 22 = some 9 := by kernel_rfl
@[simp] theorem isAggB_22 : isAggB Tryd.prog 22 = false := by kernel_rfl
@[simp] theorem tOk_22 : tOk Tryd.prog 22 = true := by kernel_rfl
@[simp] theorem arrOf_22 : arrOf Tryd.prog 22 = none := by kernel_rfl
@[simp] theorem strB_22 : strB Tryd.prog 22 = false := by kernel_rfl
@[simp] theorem bolB_22 : bolB Tryd.prog 22 = false := by kernel_rfl
@[simp] theorem mapB_22 : mapB Tryd.prog 22 = false := by kernel_rfl
@[simp] theorem intK_22 : intK Tryd.prog 22 = none := by kernel_rfl
@[simp] theorem zrow_22 : zrow Tryd.prog 22 = some [AV.sl false 1 []] := by kernel_rfl
@[simp] theorem bldOk_22 : bldOk Tryd.prog 22 = false := by kernel_rfl
@[simp] theorem tcs_22 : tcs Tryd.prog 22 = [22] := by kernel_rfl
@[simp] theorem srcT_22 : srcT Tryd.prog 22 = true := by kernel_rfl
@[simp] theorem zok_22 : zok Tryd.prog 22 = true := by kernel_rfl
@[simp] theorem flds_22 : flds Tryd.prog 22 = [] := by kernel_rfl
@[simp] theorem zeros_22 : zeros Tryd.prog 22 = some [Value.slice none 0 0] := by kernel_rfl
@[simp] theorem isinfo_22 : (Tryd.prog.info? 22).isSome = true := by kernel_rfl
@[simp] theorem isund_22 : (Tryd.prog.underlying 22).isSome = true := by kernel_rfl
@[simp] theorem cellsOf_23 : Tryd.prog.cellsOf 23 = 1 := by kernel_rfl
@[simp] theorem bytesOf_23 : Tryd.prog.bytesOf 23 = 24 := by kernel_rfl
@[simp] theorem slel_23 : slel Tryd.prog 23 = none := by kernel_rfl
@[simp] theorem isAggB_23 : isAggB Tryd.prog 23 = true := by kernel_rfl
@[simp] theorem tOk_23 : tOk Tryd.prog 23 = true := by kernel_rfl
@[simp] theorem arrOf_23 : arrOf Tryd.prog 23 = none := by kernel_rfl
@[simp] theorem strB_23 : strB Tryd.prog 23 = false := by kernel_rfl
@[simp] theorem bolB_23 : bolB Tryd.prog 23 = false := by kernel_rfl
@[simp] theorem mapB_23 : mapB Tryd.prog 23 = false := by kernel_rfl
@[simp] theorem intK_23 : intK Tryd.prog 23 = none := by kernel_rfl
@[simp] theorem zrow_23 : zrow Tryd.prog 23 = some [AV.sl false 1 []] := by kernel_rfl
@[simp] theorem bldOk_23 : bldOk Tryd.prog 23 = true := by kernel_rfl
@[simp] theorem tcs_23 : tcs Tryd.prog 23 = [22] := by kernel_rfl
@[simp] theorem srcT_23 : srcT Tryd.prog 23 = false := by kernel_rfl
@[simp] theorem zok_23 : zok Tryd.prog 23 = true := by kernel_rfl
@[simp] theorem flds_23 : flds Tryd.prog 23 = [(0, 1, 22)] := by kernel_rfl
@[simp] theorem zeros_23 : zeros Tryd.prog 23 = some [Value.slice none 0 0] := by kernel_rfl
@[simp] theorem isinfo_23 : (Tryd.prog.info? 23).isSome = true := by kernel_rfl
@[simp] theorem isund_23 : (Tryd.prog.underlying 23).isSome = true := by kernel_rfl
@[simp] theorem cellsOf_24 : Tryd.prog.cellsOf 24 = 1 := by kernel_rfl
@[simp] theorem bytesOf_24 : Tryd.prog.bytesOf 24 = 24 := by kernel_rfl
@[simp] theorem slel_24 : slel Tryd.prog 24 = none := by kernel_rfl
@[simp] theorem isAggB_24 : isAggB Tryd.prog 24 = true := by kernel_rfl
@[simp] theorem tOk_24 : tOk Tryd.prog 24 = true := by kernel_rfl
@[simp] theorem arrOf_24 : arrOf Tryd.prog 24 = none := by kernel_rfl
@[simp] theorem strB_24 : strB Tryd.prog 24 = false := by kernel_rfl
@[simp] theorem bolB_24 : bolB Tryd.prog 24 = false := by kernel_rfl
@[simp] theorem mapB_24 : mapB Tryd.prog 24 = false := by kernel_rfl
@[simp] theorem intK_24 : intK Tryd.prog 24 = none := by kernel_rfl
@[simp] theorem zrow_24 : zrow Tryd.prog 24 = some [AV.sl false 1 []] := by kernel_rfl
@[simp] theorem bldOk_24 : bldOk Tryd.prog 24 = true := by kernel_rfl
@[simp] theorem tcs_24 : tcs Tryd.prog 24 = [22] := by kernel_rfl
@[simp] theorem srcT_24 : srcT Tryd.prog 24 = false := by kernel_rfl
@[simp] theorem zok_24 : zok Tryd.prog 24 = true := by kernel_rfl
@[simp] theorem flds_24 : flds Tryd.prog 24 = [(0, 1, 22)] := by kernel_rfl
@[simp] theorem zeros_24 : zeros Tryd.prog 24 = some [Value.slice none 0 0] := by kernel_rfl
@[simp] theorem isinfo_24 : (Tryd.prog.info? 24).isSome = true := by kernel_rfl
@[simp] theorem isund_24 : (Tryd.prog.underlying 24).isSome = true := by kernel_rfl
@[simp] theorem cellsOf_25 : Tryd.prog.cellsOf 25 = 1 := by kernel_rfl
@[simp] theorem bytesOf_25 : Tryd.prog.bytesOf 25 = 8 := by kernel_rfl
@[simp] theorem slel_25 : slel Tryd.prog 25 = none := by kernel_rfl
@[simp] theorem isAggB_25 : isAggB Tryd.prog 25 = false := by kernel_rfl
@[simp] theorem tOk_25 : tOk Tryd.prog 25 = true := by kernel_rfl
@[simp] theorem arrOf_25 : arrOf Tryd.prog 25 = none := by kernel_rfl
@[simp] theorem strB_25 : strB Tryd.prog 25 = false := by kernel_rfl
@[simp] theorem bolB_25 : bolB Tryd.prog 25 = false := by kernel_rfl
@[simp] theorem mapB_25 : mapB Tryd.prog 25 = false := by kernel_rfl
@[simp] theorem intK_25 : intK Tryd.prog 25 = none := by kernel_rfl
@[simp] theorem zrow_25 : zrow Tryd.prog 25 = some [AV.sc Value.nilFunc] := by kernel_rfl
@[simp] theorem bldOk_25 : bldOk Tryd.prog 25 = false := by kernel_rfl
@[simp] theorem tcs_25 : tcs Tryd.prog 25 = [25] := by kernel_rfl
@[simp] theorem srcT_25 : srcT Tryd.prog 25 = false := by kernel_rfl
@[simp] theorem zok_25 : zok Tryd.prog 25 = true := by kernel_rfl
@[simp] theorem flds_25 : flds Tryd.prog 25 = [] := by kernel_rfl
@[simp] theorem zeros_25 : zeros Tryd.prog 25 = some [Value.nilFunc] := by kernel_rfl
@[simp] theorem isinfo_25 : (Tryd.prog.info? 25).isSome = true := by kernel_rfl
@[simp] theorem isund_25 : (Tryd.prog.underlying 25).isSome = true := by kernel_rfl
@[simp] theorem cellsOf_26 : Tryd.prog.cellsOf 26 = 1 := by kernel_rfl
@[simp] theorem bytesOf_26 : Tryd.prog.bytesOf 26 = 8 := by kernel_rfl
@[simp] theorem slel_26 : slel Tryd.prog 26 = none := by kernel_rfl
@[simp] theorem isAggB_26 : isAggB Tryd.prog 26 = false := by kernel_rfl
@[simp] theorem tOk_26 : tOk Tryd.prog 26 = true := by kernel_rfl
@[simp] theorem arrOf_26 : arrOf Tryd.prog 26 = none := by kernel_rfl
@[simp] theorem strB_26 : strB Tryd.prog 26 = false := by kernel_rfl
@[simp] theorem bolB_26 : bolB Tryd.prog 26 = false := by kernel_rfl
@[simp] theorem mapB_26 : mapB Tryd.prog 26 = false := by kernel_rfl
@[simp] theorem intK_26 : intK Tryd.prog 26 = none := by kernel_rfl
@[simp] theorem zrow_26 : zrow Tryd.prog 26 = some [AV.sc Value.nilFunc] := by kernel_rfl
@[simp] theorem bldOk_26 : bldOk Tryd.prog 26 = false := by kernel_rfl
@[simp] theorem tcs_26 : tcs Tryd.prog 26 = [26] := by kernel_rfl
@[simp] theorem srcT_26 : srcT Tryd.prog 26 = false := by kernel_rfl
@[simp] theorem zok_26 : zok Tryd.prog 26 = true := by kernel_rfl
@[simp] theorem flds_26 : flds Tryd.prog 26 = [] := by kernel_rfl
@[simp] theorem zeros_26 : zeros Tryd.prog 26 = some [Value.nilFunc] := by kernel_rfl
@[simp] theorem isinfo_26 : (Tryd.prog.info? 26).isSome = true := by kernel_rfl
@[simp] theorem isund_26 : (Tryd.prog.underlying 26).isSome = true := by kernel_rfl
@[simp] theorem cellsOf_27 : Tryd.prog.cellsOf 27 = 1 := by kernel_rfl
@[simp] theorem bytesOf_27 : Tryd.prog.bytesOf 27 = 8 := by kernel_rfl
@[simp] theorem slel_27 : slel Tryd.prog 27 = none := by kernel_rfl
@[simp] theorem isAggB_27 : isAggB Tryd.prog 27 = false := by kernel_rfl
@[simp] theorem tOk_27 : tOk Tryd.prog 27 = true := by kernel_rfl
@[simp] theorem arrOf_27 : arrOf Tryd.prog 27 = none := by kernel_rfl
@[simp] theorem strB_27 : strB Tryd.prog 27 = false := by kernel_rfl
@[simp] theorem bolB_27 : bolB Tryd.prog 27 = false := by kernel_rfl
@[simp] theorem mapB_27 : mapB Tryd.prog 27 = false := by kernel_rfl
@[simp] theorem intK_27 : intK Tryd.prog 27 = none := by kernel_rfl
@[simp] theorem zrow_27 : zrow Tryd.prog 27 = some [AV.sc Value.nilFunc] := by kernel_rfl
@[simp] theorem bldOk_27 : bldOk Tryd.prog 27 = false := by kernel_rfl
@[simp] theorem tcs_27 : tcs Tryd.prog 27 = [27] := by kernel_rfl
@[simp] theorem srcT_27 : srcT Tryd.prog 27 = false := by kernel_rfl
@[simp] theorem zok_27 : zok Tryd.prog 27 = true := by kernel_rfl
@[simp] theorem flds_27 : flds Tryd.prog 27 = [] := by kernel_rfl
@[simp] theorem zeros_27 : zeros Tryd.prog 27 = some [Value.nilFunc] := by kernel_rfl
@[simp] theorem isinfo_27 : (Tryd.prog.info? 27).isSome = true := by kernel_rfl
@[simp] theorem isund_27 : (Tryd.prog.underlying 27).isSome = true := by kernel_rfl
@[simp] theorem cellsOf_28 : Tryd.prog.cellsOf 28 = 1 := by kernel_rfl
@[simp] theorem bytesOf_28 : Tryd.prog.bytesOf 28 = 8 := by kernel_rfl
@[simp] theorem slel_28 : slel Tryd.prog 28 = none := by kernel_rfl
@[simp] theorem isAggB_28 : isAggB Tryd.prog 28 = false := by kernel_rfl
@[simp] theorem tOk_28 : tOk Tryd.prog 28 = true := by kernel_rfl
@[simp] theorem arrOf_28 : arrOf Tryd.prog 28 = none := by kernel_rfl
@[simp] theorem strB_28 : strB Tryd.prog 28 = false := by kernel_rfl
@[simp] theorem bolB_28 : bolB Tryd.prog 28 = false := by kernel_rfl
@[simp] theorem mapB_28 : mapB Tryd.prog 28 = false := by kernel_rfl
@[simp] theorem intK_28 : intK Tryd.prog 28 = some IntKind.i64 := by kernel_rfl
@[simp] theorem zrow_28 : zrow Tryd.prog 28 = some [AV.sc (Value.int IntKind.i64 0)] := by kernel_rfl
@[simp] theorem bldOk_28 : bldOk Tryd.prog 28 = false := by kernel_rfl
@[simp] theorem tcs_28 : tcs Tryd.prog 28 = [28] := by kernel_rfl
@[simp] theorem srcT_28 : srcT Tryd.prog 28 = false := by kernel_rfl
@[simp] theorem zok_28 : zok Tryd.prog 28 = true := by kernel_rfl
@[simp] theorem flds_28 : flds Tryd.prog 28 = [] := by kernel_rfl
@[simp] theorem zeros_28 : zeros Tryd.prog 28 = some [Value.int IntKind.i64 0] := by kernel_rfl
@[simp] theorem isinfo_28 : (Tryd.prog.info? 28).isSome = true := by kernel_rfl
@[simp] theorem isund_28 : (Tryd.prog.underlying 28).isSome = true := by kernel_rfl
@[simp] theorem cellsOf_29 : Tryd.prog.cellsOf 29 = 1 := by kernel_rfl
@[simp] theorem bytesOf_29 : Tryd.prog.bytesOf 29 = 0 := by kernel_rfl
@[simp] theorem slel_29 : slel Tryd.prog 29 = none := by kernel_rfl
@[simp] theorem isAggB_29 : isAggB Tryd.prog 29 = false := by kernel_rfl
@[simp] theorem tOk_29 : tOk Tryd.prog 29 = true := by kernel_rfl
@[simp] theorem arrOf_29 : arrOf Tryd.prog 29 = none := by kernel_rfl
@[simp] theorem strB_29 : strB Tryd.prog 29 = false := by kernel_rfl
@[simp] theorem bolB_29 : bolB Tryd.prog 29 = false := by kernel_rfl
@[simp] theorem mapB_29 : mapB Tryd.prog 29 = false := by kernel_rfl
@[simp] theorem intK_29 : intK Tryd.prog 29 = none := by kernel_rfl
@[simp] theorem zrow_29 : zrow Tryd.prog 29 = none := by kernel_rfl
@[simp] theorem bldOk_29 : bldOk Tryd.prog 29 = false := by kernel_rfl
@[simp] theorem tcs_29 : tcs Tryd.prog 29 = [29] := by kernel_rfl
@[simp] theorem srcT_29 : srcT Tryd.prog 29 = false := by kernel_rfl
@[simp] theorem zok_29 : zok Tryd.prog 29 = true := by kernel_rfl
@[simp] theorem flds_29 : flds Tryd.prog 29 = [] := by kernel_rfl
@[simp] theorem zeros_29 : zeros Tryd.prog 29 = some [Value.tuple { toList := [Value.agg { toList := [Value.slice none 0 0] }, Value.int IntKind.i64 0] }] := by kernel_rfl
@[simp] theorem isinfo_29 : (Tryd.prog.info? 29).isSome = true := by kernel_rfl
@[simp] theorem isund_29 : (Tryd.prog.underlying 29).isSome = true := by kernel_rfl
@[simp] theorem cellsOf_32 : Tryd.prog.cellsOf 32 = 1 := by kernel_rfl
@[simp] theorem bytesOf_32 : Tryd.prog.bytesOf 32 = 4 := by kernel_rfl
@[simp] theorem slel_32 : slel Tryd.prog 32 = none := by kernel_rfl
@[simp] theorem isAggB_32 : isAggB Tryd.prog 32 = false := by kernel_rfl
@[simp] theorem tOk_32 : tOk Tryd.prog 32 = true := by kernel_rfl
@[simp] theorem arrOf_32 : arrOf Tryd.prog 32 = none := by kernel_rfl
@[simp] theorem strB_32 : strB Tryd.prog 32 = false := by kernel_rfl
@[simp] theorem bolB_32 : bolB Tryd.prog 32 = false := by kernel_rfl
@[simp] theorem mapB_32 : mapB Tryd.prog 32 = false := by kernel_rfl
@[simp] theorem intK_32 : intK Tryd.prog 32 = some IntKind.u32 := by kernel_rfl
@[simp] theorem zrow_32 : zrow Tryd.prog 32 = some [AV.sc (Value.int IntKind.u32 0)] := by kernel_rfl
@[simp] theorem bldOk_32 : bldOk Tryd.prog 32 = false := by kernel_rfl
@[simp] theorem tcs_32 : tcs Tryd.prog 32 = [32] := by kernel_rfl
@[simp] theorem srcT_32 : srcT Tryd.prog 32 = false := by kernel_rfl
@[simp] theorem zok_32 : zok Tryd.prog 32 = true := by kernel_rfl
@[simp] theorem flds_32 : flds Tryd.prog 32 = [] := by kernel_rfl
@[simp] theorem zeros_32 : zeros Tryd.prog 32 = some [Value.int IntKind.u32 0] := by kernel_rfl
@[simp] theorem isinfo_32 : (Tryd.prog.info? 32).isSome = true := by kernel_rfl
@[simp] theorem isund_32 : (Tryd.prog.underlying 32).isSome = true := by kernel_rfl
@[simp] theorem cellsOf_33 : Tryd.prog.cellsOf 33 = 4 := by kernel_rfl
@[simp] theorem bytesOf_33 : Tryd.prog.bytesOf 33 = 16 := by kernel_rfl
@[simp] theorem slel_33 : slel Tryd.prog 33 = none := by kernel_rfl
@[simp] theorem isAggB_33 : isAggB Tryd.prog 33 = true := by kernel_rfl
@[simp] theorem tOk_33 : tOk Tryd.prog 33 = true := by kernel_rfl
@[simp] theorem arrOf_33 : arrOf Tryd.prog 33 = some (4, 32) := by kernel_rfl
@[simp] theorem strB_33 : strB Tryd.prog 33 = false := by kernel_rfl
@[simp] theorem bolB_33 : bolB Tryd.prog 33 = false := by kernel_rfl
@[simp] theorem mapB_33 : mapB Tryd.prog 33 = false := by kernel_rfl
@[simp] theorem intK_33 : intK Tryd.prog 33 = none := by kernel_rfl
@[simp] theorem zrow_33 : zrow Tryd.prog 33 = some [AV.sc (Value.int IntKind.u32 0), AV.sc (Value.int IntKind.u32 0), AV.sc (Value.int IntKind.u32 0), AV.sc (Value.int IntKind.u32 0)] := by kernel_rfl
@[simp] theorem bldOk_33 : bldOk Tryd.prog 33 = true := by kernel_rfl
@[simp] theorem tcs_33 : tcs Tryd.prog 33 = [32, 32, 32, 32] := by kernel_rfl
@[simp] theorem srcT_33 : srcT Tryd.prog 33 = false := by kernel_rfl
@[simp] theorem zok_33 : zok Tryd.prog 33 = true := by kernel_rfl
@[simp] theorem flds_33 : flds Tryd.prog 33 = [] := by kernel_rfl
@[simp] theorem zeros_33 : zeros Tryd.prog 33 = some [Value.int IntKind.u32 0, Value.int IntKind.u32 0, Value.int IntKind.u32 0, Value.int IntKind.u32 0] := by kernel_rfl
@[simp] theorem isinfo_33 : (Tryd.prog.info? 33).isSome = true := by kernel_rfl
@[simp] theorem isund_33 : (Tryd.prog.underlying 33).isSome = true := by kernel_rfl
@[simp] theorem cellsOf_34 : Tryd.prog.cellsOf 34 = 4 := by kernel_rfl
@[simp] theorem bytesOf_34 : Tryd.prog.bytesOf 34 = 16 := by kernel_rfl
@[simp] theorem slel_34 : slel Tryd.prog 34 = none := by kernel_rfl
@[simp] theorem isAggB_34 : isAggB Tryd.prog 34 = true := by kernel_rfl
@[simp] theorem tOk_34 : tOk Tryd.prog 34 = true := by kernel_rfl
@[simp] theorem arrOf_34 : arrOf Tryd.prog 34 = some (4, 32) := by kernel_rfl
@[simp] theorem strB_34 : strB Tryd.prog 34 = false := by kernel_rfl
@[simp] theorem bolB_34 : bolB Tryd.prog 34 = false := by kernel_rfl
@[simp] theorem mapB_34 : mapB Tryd.prog 34 = false := by kernel_rfl
@[simp] theorem intK_34 : intK Tryd.prog 34 = none := by kernel_rfl
@[simp] theorem zrow_34 : zrow Tryd.prog 34 = some [AV.sc (Value.int IntKind.u32 0), AV.sc (Value.int IntKind.u32 0), AV.sc (Value.int IntKind.u32 0), AV.sc (Value.int IntKind.u32 0)] := by kernel_rfl
@[simp] theorem bldOk_34 : bldOk Tryd.prog 34 = true := by kernel_rfl
@[simp] theorem tcs_34 : tcs Tryd.prog 34 = [32, 32, 32, 32] := by kernel_rfl
@[simp] theorem srcT_34 : srcT Tryd.prog 34 = false := by kernel_rfl
@[simp] theorem zok_34 : zok Tryd.prog 34 = true := by kernel_rfl
@[simp] theorem flds_34 : flds Tryd.prog 34 = [] := by kernel_rfl
@[simp] theorem zeros_34 : zeros Tryd.prog 34 = some [Value.int IntKind.u32 0, Value.int IntKind.u32 0, Value.int IntKind.u32 0, Value.int IntKind.u32 0] := by kernel_rfl
@[simp] theorem isinfo_34 : (Tryd.prog.info? 34).isSome = true := by kernel_rfl
@[simp] theorem isund_34 : (Tryd.prog.underlying 34).isSome = true := by kernel_rfl
@[simp] theorem cellsOf_40 : Tryd.prog.cellsOf 40 = 8 := by kernel_rfl
@[simp] theorem bytesOf_40 : Tryd.prog.bytesOf 40 = 32 := by kernel_rfl
@[simp] theorem slel_40 : slel Tryd.prog 40 = none := by kernel_rfl
@[simp] theorem isAggB_40 : isAggB Tryd.prog 40 = true := by kernel_rfl
@[simp] theorem tOk_40 : tOk Tryd.prog 40 = true := by kernel_rfl
@[simp] theorem arrOf_40 : arrOf Tryd.prog 40 = none := by kernel_rfl
@[simp] theorem strB_40 : strB Tryd.prog 40 = false := by kernel_rfl
@[simp] theorem bolB_40 : bolB Tryd.prog 40 = false := by kernel_rfl
@[simp] theorem mapB_40 : mapB Tryd.prog 40 = false := by kernel_rfl
@[simp] theorem intK_40 : intK Tryd.prog 40 = none := by kernel_rfl
@[simp] theorem zrow_40 : zrow Tryd.prog 40 = some [AV.sc (Value.int IntKind.u32 0), AV.sc (Value.int IntKind.u32 0), AV.sc (Value.int IntKind.u32 0), AV.sc (Value.int IntKind.u32 0), AV.sc (Value.int IntKind.u32 0), AV.sc (Value.int IntKind.u32 0), AV.sc (Value.int IntKind.u32 0), AV.sc (Value.int IntKind.u32 0)] := by kernel_rfl
@[simp] theorem bldOk_40 : bldOk Tryd.prog 40 = true := by kernel_rfl
@[simp] theorem tcs_40 : tcs Tryd.prog 40 = [32, 32, 32, 32, 32, 32, 32, 32] := by kernel_rfl
@[simp] theorem srcT_40 : srcT Tryd.prog 40 = false := by kernel_rfl
@[simp] theorem zok_40 : zok Tryd.prog 40 = true := by kernel_rfl
@[simp] theorem flds_40 : flds Tryd.prog 40 = [(0, 4, 34), (4, 4, 34)] := by kernel_rfl
@[simp] theorem zeros_40 : zeros Tryd.prog 40 = some [Value.int IntKind.u32 0, Value.int IntKind.u32 0, Value.int IntKind.u32 0, Value.int IntKind.u32 0, Value.int IntKind.u32 0, Value.int IntKind.u32 0, Value.int IntKind.u32 0, Value.int IntKind.u32 0] := by kernel_rfl
@[simp] theorem isinfo_40 : (Tryd.prog.info? 40).isSome = true := by kernel_rfl
@[simp] theorem isund_40 : (Tryd.prog.underlying 40).isSome = true := by kernel_rfl
@[simp] theorem cellsOf_42 : Tryd.prog.cellsOf 42 = 6 := by kernel_rfl
@[simp] theorem bytesOf_42 : Tryd.prog.bytesOf 42 = 32 := by kernel_rfl
@[simp] theorem slel_42 : slel Tryd.prog 42 = none := by kernel_rfl
@[simp] theorem isAggB_42 : isAggB Tryd.prog 42 = true := by kernel_rfl
@[simp] theorem tOk_42 : tOk Tryd.prog 42 = true := by kernel_rfl
@[simp] theorem arrOf_42 : arrOf Tryd.prog 42 = none := by kernel_rfl
@[simp] theorem strB_42 : strB Tryd.prog 42 = false := by kernel_rfl
@[simp] theorem bolB_42 : bolB Tryd.prog 42 = false := by kernel_rfl
@[simp] theorem mapB_42 : mapB Tryd.prog 42 = false := by kernel_rfl
@[simp] theorem intK_42 : intK Tryd.prog 42 = none := by kernel_rfl
@[simp] theorem zrow_42 : zrow Tryd.prog 42 = some [AV.sc (Value.int IntKind.u32 0), AV.sc (Value.int IntKind.u32 0), AV.sc (Value.int IntKind.u32 0), AV.sc (Value.int IntKind.u32 0), AV.sc (Value.int IntKind.i64 0), AV.sc (Value.int IntKind.i64 0)] := by kernel_rfl
@[simp] theorem bldOk_42 : bldOk Tryd.prog 42 = true := by kernel_rfl
@[simp] theorem tcs_42 : tcs Tryd.prog 42 = [32, 32, 32, 32, 3, 3] := by kernel_rfl
@[simp] theorem srcT_42 : srcT Tryd.prog 42 = false := by kernel_rfl
@[simp] theorem zok_42 : zok Tryd.prog 42 = true := by kernel_rfl
@[simp] theorem flds_42 : flds Tryd.prog 42 = [(0, 4, 34), (4, 1, 3), (5, 1, 3)] := by kernel_rfl
@[simp] theorem zeros_42 : zeros Tryd.prog 42 = some [Value.int IntKind.u32 0, Value.int IntKind.u32 0, Value.int IntKind.u32 0, Value.int IntKind.u32 0, Value.int IntKind.i64 0, Value.int IntKind.i64 0] := by kernel_rfl
@[simp] theorem isinfo_42 : (Tryd.prog.info? 42).isSome = true := by kernel_rfl
@[simp] theorem isund_42 : (Tryd.prog.underlying 42).isSome = true := by kernel_rfl
@[simp] theorem cellsOf_43 : Tryd.prog.cellsOf 43 = 1 := by kernel_rfl
@[simp] theorem bytesOf_43 : Tryd.prog.bytesOf 43 = 24 := by kernel_rfl
@[simp] theorem slel_43 : slel Tryd.prog 43 = some 34 := by kernel_rfl
@[simp] theorem isAggB_43 : isAggB Tryd.prog 43 = false := by kernel_rfl
@[simp] theorem tOk_43 : tOk Tryd.prog 43 = true := by kernel_rfl
@[simp] theorem arrOf_43 : arrOf Tryd.prog 43 = none := by kernel_rfl
@[simp] theorem strB_43 : strB Tryd.prog 43 = false := by kernel_rfl
@[simp] theorem bolB_43 : bolB Tryd.prog 43 = false := by kernel_rfl
@[simp] theorem mapB_43 : mapB Tryd.prog 43 = false := by kernel_rfl
@[simp] theorem intK_43 : intK Tryd.prog 43 = none := by kernel_rfl
@[simp] theorem zrow_43 : zrow Tryd.prog 43 = some [AV.sl false 4 []] := by kernel_rfl
@[simp] theorem bldOk_43 : bldOk Tryd.prog 43 = false := by kernel_rfl
@[simp] theorem tcs_43 : tcs Tryd.prog 43 = [43] := by kernel_rfl
@[simp] theorem srcT_43 : srcT Tryd.prog 43 = true := by kernel_rfl
@[simp] theorem zok_43 : zok Tryd.prog 43 = true := by kernel_rfl
@[simp] theorem flds_43 : flds Tryd.prog 43 = [] := by kernel_rfl
@[simp] theorem zeros_43 : zeros Tryd.prog 43 = some [Value.slice none 0 0] := by kernel_rfl
@[simp] theorem isinfo_43 : (Tryd.prog.info? 43).isSome = true := by kernel_rfl
@[simp] theorem isund_43 : (Tryd.prog.underlying 43).isSome = true := by kernel_rfl
@[simp] theorem cellsOf_44 : Tryd.prog.cellsOf 44 = 1 := by kernel_rfl
@[simp] theorem bytesOf_44 : Tryd.prog.bytesOf 44 = 24 := by kernel_rfl
@[simp] theorem slel_44 : slel Tryd.prog 44 = some 34 := by kernel_rfl
@[simp] theorem isAggB_44 : isAggB Tryd.prog 44 = false := by kernel_rfl
@[simp] theorem tOk_44 : tOk Tryd.prog 44 = true := by kernel_rfl
@[simp] theorem arrOf_44 : arrOf Tryd.prog 44 = none := by kernel_rfl
@[simp] theorem strB_44 : strB Tryd.prog 44 = false := by kernel_rfl
@[simp] theorem bolB_44 : bolB Tryd.prog 44 = false := by kernel_rfl
@[simp] theorem mapB_44 : mapB Tryd.prog 44 = false := by kernel_rfl
@[simp] theorem intK_44 : intK Tryd.prog 44 = none := by kernel_rfl
@[simp] theorem zrow_44 : zrow Tryd.prog 44 = some [AV.sl false 4 []] := by kernel_rfl
@[simp] theorem bldOk_44 : bldOk Tryd.prog 44 = false := by kernel_rfl
@[simp] theorem tcs_44 : tcs Tryd.prog 44 = [44] := by kernel_rfl
@[simp] theorem srcT_44 : srcT Tryd.prog 44 = true := by kernel_rfl
@[simp] theorem zok_44 : zok Tryd.prog 44 = true := by kernel_rfl
@[simp] theorem flds_44 : flds Tryd.prog 44 = [] := by kernel_rfl
@[simp] theorem zeros_44 : zeros Tryd.prog 44 = some [Value.slice none 0 0] := by kernel_rfl
@[simp] theorem isinfo_44 : (Tryd.prog.info? 44).isSome = true := by kernel_rfl
@[simp] theorem isund_44 : (Tryd.prog.underlying 44).isSome = true := by kernel_rfl
@[simp] theorem cellsOf_46 : Tryd.prog.cellsOf 46 = 3 := by kernel_rfl
@[simp] theorem bytesOf_46 : Tryd.prog.bytesOf 46 = 56 := by kernel_rfl
@[simp] theorem slel_46 : slel Tryd.prog 46 = none := by kernel_rfl
@[simp] theorem isAggB_46 : isAggB Tryd.prog 46 = true := by kernel_rfl
@[simp] theorem tOk_46 : tOk Tryd.prog 46 = true := by kernel_rfl
@[simp] theorem arrOf_46 : arrOf Tryd.prog 46 = none := by kernel_rfl
@[simp] theorem strB_46 : strB Tryd.prog 46 = false := by kernel_rfl
@[simp] theorem bolB_46 : bolB Tryd.prog 46 = false := by kernel_rfl
@[simp] theorem mapB_46 : mapB Tryd.prog 46 = false := by kernel_rfl
@[simp] theorem intK_46 : intK Tryd.prog 46 = none := by kernel_rfl
@[simp] theorem zrow_46 : zrow Tryd.prog 46 = some [AV.sc (Value.int IntKind.i64 0), AV.sl false 4 [], AV.sl false 4 []] := by kernel_rfl
@[simp] theorem bldOk_46 : bldOk Tryd.prog 46 = true := by kernel_rfl
@[simp] theorem tcs_46 : tcs Tryd.prog 46 = [3, 44, 43] := by kernel_rfl
@[simp] theorem srcT_46 : srcT Tryd.prog 46 = false := by kernel_rfl
@[simp] theorem zok_46 : zok Tryd.prog 46 = true := by kernel_rfl
@[simp] theorem flds_46 : flds Tryd.prog 46 = [(0, 1, 3), (1, 1, 44), (2, 1, 43)] := by kernel_rfl
@[simp] theorem zeros_46 : zeros Tryd.prog 46 = some [Value.int IntKind.i64 0, Value.slice none 0 0, Value.slice none 0 0] := by kernel_rfl
@[simp] theorem isinfo_46 : (Tryd.prog.info? 46).isSome = true := by kernel_rfl
@[simp] theorem isund_46 : (Tryd.prog.underlying 46).isSome = true := by kernel_rfl
@[simp] theorem cellsOf_48 : Tryd.prog.cellsOf 48 = 7 := by kernel_rfl
@[simp] theorem bytesOf_48 : Tryd.prog.bytesOf 48 = 72 := by kernel_rfl
@[simp] theorem slel_48 : slel Tryd.prog 48 = none := by kernel_rfl
@[simp] theorem isAggB_48 : isAggB Tryd.prog 48 = true := by kernel_rfl
@[simp] theorem tOk_48 : tOk Tryd.prog 48 = true := by kernel_rfl
@[simp] theorem arrOf_48 : arrOf Tryd.prog 48 = none := by kernel_rfl
@[simp] theorem strB_48 : strB Tryd.prog 48 = false := by kernel_rfl
@[simp] theorem bolB_48 : bolB Tryd.prog 48 = false := by kernel_rfl
@[simp] theorem mapB_48 : mapB Tryd.prog 48 = false := by kernel_rfl
@[simp] theorem intK_48 : intK Tryd.prog 48 = none := by kernel_rfl
@[simp] theorem zrow_48 : zrow Tryd.prog 48 = some [AV.sc (Value.int IntKind.u32 0), AV.sc (Value.int IntKind.u32 0), AV.sc (Value.int IntKind.u32 0), AV.sc (Value.int IntKind.u32 0), AV.sc (Value.int IntKind.i64 0), AV.sl false 4 [], AV.sl false 4 []] := by kernel_rfl
@[simp] theorem bldOk_48 : bldOk Tryd.prog 48 = true := by kernel_rfl
@[simp] theorem tcs_48 : tcs Tryd.prog 48 = [32, 32, 32, 32, 3, 44, 43] := by kernel_rfl
@[simp] theorem srcT_48 : srcT Tryd.prog 48 = false := by kernel_rfl
@[simp] theorem zok_48 : zok Tryd.prog 48 = true := by kernel_rfl
@[simp] theorem flds_48 : flds Tryd.prog 48 = [(0, 4, 34), (4, 3, 46)] := by kernel_rfl
@[simp] theorem zeros_48 : zeros Tryd.prog 48 = some [Value.int IntKind.u32 0, Value.int IntKind.u32 0, Value.int IntKind.u32 0, Value.int IntKind.u32 0, Value.int IntKind.i64 0, Value.slice none 0 0, Value.slice none 0 0] := by kernel_rfl
@[simp] theorem isinfo_48 : (Tryd.prog.info? 48).isSome = true := by kernel_rfl
@[simp] theorem isund_48 : (Tryd.prog.underlying 48).isSome = true := by kernel_rfl
@[simp] theorem cellsOf_49 : Tryd.prog.cellsOf 49 = 1 := by kernel_rfl
@[simp] theorem bytesOf_49 : Tryd.prog.bytesOf 49 = 0 := by kernel_rfl
@[simp] theorem slel_49 : slel Tryd.prog 49 = none := by kernel_rfl
@[simp] theorem isAggB_49 : isAggB Tryd.prog 49 = false := by kernel_rfl
@[simp] theorem tOk_49 : tOk Tryd.prog 49 = true := by kernel_rfl
@[simp] theorem arrOf_49 : arrOf Tryd.prog 49 = none := by kernel_rfl
@[simp] theorem strB_49 : strB Tryd.prog 49 = false := by kernel_rfl
@[simp] theorem bolB_49 : bolB Tryd.prog 49 = false := by kernel_rfl
@[simp] theorem mapB_49 : mapB Tryd.prog 49 = false := by kernel_rfl
@[simp] theorem intK_49 : intK Tryd.prog 49 = none := by kernel_rfl
@[simp] theorem zrow_49 : zrow Tryd.prog 49 = none := by kernel_rfl
@[simp] theorem bldOk_49 : bldOk Tryd.prog 49 = false := by kernel_rfl
@[simp] theorem tcs_49 : tcs Tryd.prog 49 = [49] := by kernel_rfl
@[simp] theorem srcT_49 : srcT Tryd.prog 49 = false := by kernel_rfl
@[simp] theorem zok_49 : zok Tryd.prog 49 = true := by kernel_rfl
@[simp] theorem flds_49 : flds Tryd.prog 49 = [] := by kernel_rfl
@[simp] theorem zeros_49 : zeros Tryd.prog 49 = some [Value.tuple { toList := [Value.agg { toList := [Value.int IntKind.u32 0, Value.int IntKind.u32 0, Value.int IntKind.u32 0, Value.int IntKind.u32 0, Value.int IntKind.i64 0, Value.int IntKind.i64 0] }, Value.agg { toList := [Value.int IntKind.u32 0, Value.int IntKind.u32 0, Value.int IntKind.u32 0, Value.int IntKind.u32 0, Value.int IntKind.i64 0, Value.slice none 0 0, Value.slice none 0 0] }, Value.int IntKind.i64 0] }] := by kernel_rfl
@[simp] theorem isinfo_49 : (Tryd.prog.info? 49).isSome = true := by kernel_rfl
@[simp] theorem isund_49 : (Tryd.prog.underlying 49).isSome = true := by kernel_rfl
@[simp] theorem cellsOf_53 : Tryd.prog.cellsOf 53 = 1 := by kernel_rfl
@[simp] theorem bytesOf_53 : Tryd.prog.bytesOf 53 = 0 := by kernel_rfl
@[simp] theorem slel_53 : slel Tryd.prog 53 = none := by kernel_rfl
@[simp] theorem isAggB_53 : isAggB Tryd.prog 53 = false := by kernel_rfl
@[simp] theorem tOk_53 : tOk Tryd.prog 53 = true := by kernel_rfl
@[simp] theorem arrOf_53 : arrOf Tryd.prog 53 = none := by kernel_rfl
@[simp] theorem strB_53 : strB Tryd.prog 53 = false := by kernel_rfl
@[simp] theorem bolB_53 : bolB Tryd.prog 53 = false := by kernel_rfl
@[simp] theorem mapB_53 : mapB Tryd.prog 53 = false := by kernel_rfl
@[simp] theorem intK_53 : intK Tryd.prog 53 = none := by kernel_rfl
@[simp] theorem zrow_53 : zrow Tryd.prog 53 = none := by kernel_rfl
@[simp] theorem bldOk_53 : bldOk Tryd.prog 53 = false := by kernel_rfl
@[simp] theorem tcs_53 : tcs Tryd.prog 53 = [53] := by kernel_rfl
@[simp] theorem srcT_53 : srcT Tryd.prog 53 = false := by kernel_rfl
@[simp] theorem zok_53 : zok Tryd.prog 53 = true := by kernel_rfl
@[simp] theorem flds_53 : flds Tryd.prog 53 = [] := by kernel_rfl
@[simp] theorem zeros_53 : zeros Tryd.prog 53 = some [Value.tuple { toList := [Value.string { data := { toList := [] } }, Value.int IntKind.i64 0] }] := by kernel_rfl
@[simp] theorem isinfo_53 : (Tryd.prog.info? 53).isSome = true := by kernel_rfl
@[simp] theorem isund_53 : (Tryd.prog.underlying 53).isSome = true := by kernel_rfl
@[simp] theorem cellsOf_55 : Tryd.prog.cellsOf 55 = 1 := by kernel_rfl
@[simp] theorem bytesOf_55 : Tryd.prog.bytesOf 55 = 24 := by kernel_rfl
@[simp] theorem slel_55 : slel Tryd.prog 55 = some 32 := by kernel_rfl
@[simp] theorem isAggB_55 : isAggB Tryd.prog 55 = false := by kernel_rfl
@[simp] theorem tOk_55 : tOk Tryd.prog 55 = true := by kernel_rfl
@[simp] theorem arrOf_55 : arrOf Tryd.prog 55 = none := by kernel_rfl
@[simp] theorem strB_55 : strB Tryd.prog 55 = false := by kernel_rfl
@[simp] theorem bolB_55 : bolB Tryd.prog 55 = false := by kernel_rfl
@[simp] theorem mapB_55 : mapB Tryd.prog 55 = false := by kernel_rfl
@[simp] theorem intK_55 : intK Tryd.prog 55 = none := by kernel_rfl
@[simp] theorem zrow_55 : zrow Tryd.prog 55 = some [AV.sl false 1 []] := by kernel_rfl
@[simp] theorem bldOk_55 : bldOk Tryd.prog 55 = false := by kernel_rfl
@[simp] theorem tcs_55 : tcs Tryd.prog 55 = [55] := by kernel_rfl
@[simp] theorem srcT_55 : srcT Tryd.prog 55 = true := by kernel_rfl
@[simp] theorem zok_55 : zok Tryd.prog 55 = true := by kernel_rfl
@[simp] theorem flds_55 : flds Tryd.prog 55 = [] := by kernel_rfl
@[simp] theorem zeros_55 : zeros Tryd.prog 55 = some [Value.slice none 0 0] := by kernel_rfl
@[simp] theorem isinfo_55 : (Tryd.prog.info? 55).isSome = true := by kernel_rfl
@[simp] theorem isund_55 : (Tryd.prog.underlying 55).isSome = true := by kernel_rfl
@[simp] theorem cellsOf_60 : Tryd.prog.cellsOf 60 = 1 := by kernel_rfl
@[simp] theorem bytesOf_60 : Tryd.prog.bytesOf 60 = 0 := by kernel_rfl
@[simp] theorem slel_60 : slel Tryd.prog 60 = none := by kernel_rfl
@[simp] theorem isAggB_60 : isAggB Tryd.prog 60 = false := by kernel_rfl
@[simp] theorem tOk_60 : tOk Tryd.prog 60 = true := by kernel_rfl
@[simp] theorem arrOf_60 : arrOf Tryd.prog 60 = none := by kernel_rfl
@[simp] theorem strB_60 : strB Tryd.prog 60 = false := by kernel_rfl
@[simp] theorem bolB_60 : bolB Tryd.prog 60 = false := by kernel_rfl
@[simp] theorem mapB_60 : mapB Tryd.prog 60 = false := by kernel_rfl
@[simp] theorem intK_60 : intK Tryd.prog 60 = none := by kernel_rfl
@[simp] theorem zrow_60 : zrow Tryd.prog 60 = none := by kernel_rfl
@[simp] theorem bldOk_60 : bldOk Tryd.prog 60 = false := by kernel_rfl
@[simp] theorem tcs_60 : tcs Tryd.prog 60 = [60] := by kernel_rfl
@[simp] theorem srcT_60 : srcT Tryd.prog 60 = false := by kernel_rfl
@[simp] theorem zok_60 : zok Tryd.prog 60 = true := by kernel_rfl
@[simp] theorem flds_60 : flds Tryd.prog 60 = [] := by kernel_rfl
@[simp] theorem zeros_60 : zeros Tryd.prog 60 = some [Value.tuple { toList := [Value.agg { toList := [Value.int IntKind.u32 0, Value.int IntKind.u32 0, Value.int IntKind.u32 0, Value.int IntKind.u32 0, Value.int IntKind.i64 0, Value.int IntKind.i64 0] }, Value.agg { toList := [Value.int IntKind.i64 0, Value.slice none 0 0, Value.slice none 0 0] }, Value.int IntKind.i64 0] }] := by kernel_rfl
@[simp] theorem isinfo_60 : (Tryd.prog.info? 60).isSome = true := by kernel_rfl
@[simp] theorem isund_60 : (Tryd.prog.underlying 60).isSome = true := by kernel_rfl
@[simp] theorem cellsOf_63 : Tryd.prog.cellsOf 63 = 1 := by kernel_rfl
@[simp] theorem bytesOf_63 : Tryd.prog.bytesOf 63 = 0 := by kernel_rfl
@[simp] theorem slel_63 : slel Tryd.prog 63 = none := by kernel_rfl
@[simp] theorem isAggB_63 : isAggB Tryd.prog 63 = false := by kernel_rfl
@[simp] theorem tOk_63 : tOk Tryd.prog 63 = true := by kernel_rfl
@[simp] theorem arrOf_63 : arrOf Tryd.prog 63 = none := by kernel_rfl
@[simp] theorem strB_63 : strB Tryd.prog 63 = false := by kernel_rfl
@[simp] theorem bolB_63 : bolB Tryd.prog 63 = false := by kernel_rfl
@[simp] theorem mapB_63 : mapB Tryd.prog 63 = false := by kernel_rfl
@[simp] theorem intK_63 : intK Tryd.prog 63 = none := by kernel_rfl
@[simp] theorem zrow_63 : zrow Tryd.prog 63 = none := by kernel_rfl
@[simp] theorem bldOk_63 : bldOk Tryd.prog 63 = false := by kernel_rfl
@[simp] theorem tcs_63 : tcs Tryd.prog 63 = [63] := by kernel_rfl
@[simp] theorem srcT_63 : srcT Tryd.prog 63 = false := by kernel_rfl
@[simp] theorem zok_63 : zok Tryd.prog 63 = true := by kernel_rfl
@[simp] theorem flds_63 : flds Tryd.prog 63 = [] := by kernel_rfl
@[simp] theorem zeros_63 : zeros Tryd.prog 63 = some [Value.tuple { toList := [Value.agg { toList := [Value.int IntKind.u32 0, Value.int IntKind.u32 0, Value.int IntKind.u32 0, Value.int IntKind.u32 0] }, Value.int IntKind.i64 0] }] := by kernel_rfl
@[simp] theorem isinfo_63 : (Tryd.prog.info? 63).isSome = true := by kernel_rfl
@[simp] theorem isund_63 : (Tryd.prog.underlying 63).isSome = true := by kernel_rfl
@[simp] theorem cellsOf_66 : Tryd.prog.cellsOf 66 = 1 := by kernel_rfl
@[simp] theorem bytesOf_66 : Tryd.prog.bytesOf 66 = 0 := by kernel_rfl
@[simp] theorem slel_66 : slel Tryd.prog 66 = none := by kernel_rfl
@[simp] theorem isAggB_66 : isAggB Tryd.prog 66 = false := by kernel_rfl
@[simp] theorem tOk_66 : tOk Tryd.prog 66 = true := by kernel_rfl
@[simp] theorem arrOf_66 : arrOf Tryd.prog 66 = none := by kernel_rfl
@[simp] theorem strB_66 : strB Tryd.prog 66 = false := by kernel_rfl
@[simp] theorem bolB_66 : bolB Tryd.prog 66 = false := by kernel_rfl
@[simp] theorem mapB_66 : mapB Tryd.prog 66 = false := by kernel_rfl
@[simp] theorem intK_66 : intK Tryd.prog 66 = none := by kernel_rfl
@[simp] theorem zrow_66 : zrow Tryd.prog 66 = none := by kernel_rfl
@[simp] theorem bldOk_66 : bldOk Tryd.prog 66 = false := by kernel_rfl
@[simp] theorem tcs_66 : tcs Tryd.prog 66 = [66] := by kernel_rfl
@[simp] theorem srcT_66 : srcT Tryd.prog 66 = false := by kernel_rfl
@[simp] theorem zok_66 : zok Tryd.prog 66 = true := by kernel_rfl
@[simp] theorem flds_66 : flds Tryd.prog 66 = [] := by kernel_rfl
@[simp] theorem zeros_66 : zeros Tryd.prog 66 = some [Value.tuple { toList := [Value.slice none 0 0, Value.int IntKind.i64 0] }] := by kernel_rfl
@[simp] theorem isinfo_66 : (Tryd.prog.info? 66).isSome = true := by kernel_rfl
@[simp] theorem isund_66 : (Tryd.prog.underlying 66).isSome = true := by kernel_rfl
@[simp] theorem cellsOf_70 : Tryd.prog.cellsOf 70 = 2 := by kernel_rfl
@[simp] theorem bytesOf_70 : Tryd.prog.bytesOf 70 = 32 := by kernel_rfl
@[simp] theorem slel_70 : slel Tryd.prog 70 = none := by kernel_rfl
@[simp] theorem isAggB_70 : isAggB Tryd.prog 70 = true := by kernel_rfl
@[simp] theorem tOk_70 : tOk Tryd.prog 70 = true := by kernel_rfl
@[simp] theorem arrOf_70 : arrOf Tryd.prog 70 = none := by kernel_rfl
@[simp] theorem strB_70 : strB Tryd.prog 70 = false := by kernel_rfl
@[simp] theorem bolB_70 : bolB Tryd.prog 70 = false := by kernel_rfl
@[simp] theorem mapB_70 : mapB Tryd.prog 70 = false := by kernel_rfl
@[simp] theorem intK_70 : intK Tryd.prog 70 = none := by kernel_rfl
@[simp] theorem zrow_70 : zrow Tryd.prog 70 = some [AV.sl false 1 [], AV.sc (Value.int IntKind.i64 0)] := by kernel_rfl
@[simp] theorem bldOk_70 : bldOk Tryd.prog 70 = true := by kernel_rfl
@[simp] theorem tcs_70 : tcs Tryd.prog 70 = [55, 3] := by kernel_rfl
@[simp] theorem srcT_70 : srcT Tryd.prog 70 = false := by kernel_rfl
@[simp] theorem zok_70 : zok Tryd.prog 70 = true := by kernel_rfl
@[simp] theorem flds_70 : flds Tryd.prog 70 = [(0, 1, 55), (1, 1, 3)] := by kernel_rfl
@[simp] theorem zeros_70 : zeros Tryd.prog 70 = some [Value.slice none 0 0, Value.int IntKind.i64 0] := by kernel_rfl
@[simp] theorem isinfo_70 : (Tryd.prog.info? 70).isSome = true := by kernel_rfl
@[simp] theorem isund_70 : (Tryd.prog.underlying 70).isSome = true := by kernel_rfl
@[simp] theorem cellsOf_71 : Tryd.prog.cellsOf 71 = 1 := by kernel_rfl
@[simp] theorem bytesOf_71 : Tryd.prog.bytesOf 71 = 0 := by kernel_rfl
@[simp] theorem slel_71 : slel Tryd.prog 71 = none := by kernel_rfl
@[simp] theorem isAggB_71 : isAggB Tryd.prog 71 = false := by kernel_rfl
@[simp] theorem tOk_71 : tOk Tryd.prog 71 = true := by kernel_rfl
@[simp] theorem arrOf_71 : arrOf Tryd.prog 71 = none := by kernel_rfl
@[simp] theorem strB_71 : strB Tryd.prog 71 = false := by kernel_rfl
@[simp] theorem bolB_71 : bolB Tryd.prog 71 = false := by kernel_rfl
@[simp] theorem mapB_71 : mapB Tryd.prog 71 = false := by kernel_rfl
@[simp] theorem intK_71 : intK Tryd.prog 71 = none := by kernel_rfl
@[simp] theorem zrow_71 : zrow Tryd.prog 71 = none := by kernel_rfl
@[simp] theorem bldOk_71 : bldOk Tryd.prog 71 = false := by kernel_rfl
@[simp] theorem tcs_71 : tcs Tryd.prog 71 = [71] := by kernel_rfl
@[simp] theorem srcT_71 : srcT Tryd.prog 71 = false := by kernel_rfl
@[simp] theorem zok_71 : zok Tryd.prog 71 = true := by kernel_rfl
@[simp] theorem flds_71 : flds Tryd.prog 71 = [] := by kernel_rfl
@[simp] theorem zeros_71 : zeros Tryd.prog 71 = some [Value.tuple { toList := [Value.agg { toList := [Value.slice none 0 0, Value.int IntKind.i64 0] }, Value.int IntKind.i64 0] }] := by kernel_rfl
@[simp] theorem isinfo_71 : (Tryd.prog.info? 71).isSome = true := by kernel_rfl
@[simp] theorem isund_71 : (Tryd.prog.underlying 71).isSome = true := by kernel_rfl
@[simp] theorem cellsOf_74 : Tryd.prog.cellsOf 74 = 3 := by kernel_rfl
@[simp] theorem bytesOf_74 : Tryd.prog.bytesOf 74 = 32 := by kernel_rfl
@[simp] theorem slel_74 : slel Tryd.prog 74 = none := by kernel_rfl
@[simp] theorem isAggB_74 : isAggB Tryd.prog 74 = true := by kernel_rfl
@[simp] theorem tOk_74 : tOk Tryd.prog 74 = true := by kernel_rfl
@[simp] theorem arrOf_74 : arrOf Tryd.prog 74 = none := by kernel_rfl
@[simp] theorem strB_74 : strB Tryd.prog 74 = false := by kernel_rfl
@[simp] theorem bolB_74 : bolB Tryd.prog 74 = false := by kernel_rfl
@[simp] theorem mapB_74 : mapB Tryd.prog 74 = false := by kernel_rfl
@[simp] theorem intK_74 : intK Tryd.prog 74 = none := by kernel_rfl
@[simp] theorem zrow_74 : zrow Tryd.prog 74 = some [AV.sc (Value.int IntKind.i64 0), AV.sc (Value.string { data := { toList := [] } }), AV.sc (Value.int IntKind.i64 0)] := by kernel_rfl
@[simp] theorem bldOk_74 : bldOk Tryd.prog 74 = true := by kernel_rfl
@[simp] theorem tcs_74 : tcs Tryd.prog 74 = [3, 9, 3] := by kernel_rfl
@[simp] theorem srcT_74 : srcT Tryd.prog 74 = false := by kernel_rfl
@[simp] theorem zok_74 : zok Tryd.prog 74 = true := by kernel_rfl
@[simp] theorem flds_74 : flds Tryd.prog 74 = [(0, 1, 3), (1, 1, 9), (2, 1, 3)] := by kernel_rfl
@[simp] theorem zeros_74 : zeros Tryd.prog 74 = some [Value.int IntKind.i64 0, Value.string { data := { toList := [] } }, Value.int IntKind.i64 0] := by kernel_rfl
@[simp] theorem isinfo_74 : (Tryd.prog.info? 74).isSome = true := by kernel_rfl
@[simp] theorem isund_74 : (Tryd.prog.underlying 74).isSome = true := by kernel_rfl
@[simp] theorem cellsOf_79 : Tryd.prog.cellsOf 79 = 1 := by kernel_rfl
@[simp] theorem bytesOf_79 : Tryd.prog.bytesOf 79 = 0 := by kernel_rfl
@[simp] theorem slel_79 : slel Tryd.prog 79 = none := by kernel_rfl
@[simp] theorem isAggB_79 : isAggB Tryd.prog 79 = false := by kernel_rfl
@[simp] theorem tOk_79 : tOk Tryd.prog 79 = true := by kernel_rfl
@[simp] theorem arrOf_79 : arrOf Tryd.prog 79 = none := by kernel_rfl
@[simp] theorem strB_79 : strB Tryd.prog 79 = false := by kernel_rfl
@[simp] theorem bolB_79 : bolB Tryd.prog 79 = false := by kernel_rfl
@[simp] theorem mapB_79 : mapB Tryd.prog 79 = false := by kernel_rfl
@[simp] theorem intK_79 : intK Tryd.prog 79 = none := by kernel_rfl
@[simp] theorem zrow_79 : zrow Tryd.prog 79 = none := by kernel_rfl
@[simp] theorem bldOk_79 : bldOk Tryd.prog 79 = false := by kernel_rfl
@[simp] theorem tcs_79 : tcs Tryd.prog 79 = [79] := by kernel_rfl
@[simp] theorem srcT_79 : srcT Tryd.prog 79 = false := by kernel_rfl
@[simp] theorem zok_79 : zok Tryd.prog 79 = true := by kernel_rfl
@[simp] theorem flds_79 : flds Tryd.prog 79 = [] := by kernel_rfl
@[simp] theorem zeros_79 : zeros Tryd.prog 79 = some [Value.tuple { toList := [Value.agg { toList := [Value.int IntKind.i64 0, Value.slice none 0 0, Value.slice none 0 0] }, Value.int IntKind.i64 0] }] := by kernel_rfl
@[simp] theorem isinfo_79 : (Tryd.prog.info? 79).isSome = true := by kernel_rfl
@[simp] theorem isund_79 : (Tryd.prog.underlying 79).isSome = true := by kernel_rfl
@[simp] theorem cellsOf_87 : Tryd.prog.cellsOf 87 = 4 := by kernel_rfl
@[simp] theorem bytesOf_87 : Tryd.prog.bytesOf 87 = 32 := by kernel_rfl
@[simp] theorem slel_87 : slel Tryd.prog 87 = none := by kernel_rfl
@[simp] theorem isAggB_87 : isAggB Tryd.prog 87 = true := by kernel_rfl
@[simp] theorem tOk_87 : tOk Tryd.prog 87 = true := by kernel_rfl
@[simp] theorem arrOf_87 : arrOf Tryd.prog 87 = none := by kernel_rfl
@[simp] theorem strB_87 : strB Tryd.prog 87 = false := by kernel_rfl
@[simp] theorem bolB_87 : bolB Tryd.prog 87 = false := by kernel_rfl
@[simp] theorem mapB_87 : mapB Tryd.prog 87 = false := by kernel_rfl
@[simp] theorem intK_87 : intK Tryd.prog 87 = none := by kernel_rfl
@[simp] theorem zrow_87 : zrow Tryd.prog 87 = some [AV.sc (Value.int IntKind.i64 0), AV.sc (Value.int IntKind.i64 0), AV.sc (Value.int IntKind.i64 0), AV.sc (Value.int IntKind.i64 0)] := by kernel_rfl
@[simp] theorem bldOk_87 : bldOk Tryd.prog 87 = true := by kernel_rfl
@[simp] theorem tcs_87 : tcs Tryd.prog 87 = [3, 3, 3, 3] := by kernel_rfl
@[simp] theorem srcT_87 : srcT Tryd.prog 87 = false := by kernel_rfl
@[simp] theorem zok_87 : zok Tryd.prog 87 = true := by kernel_rfl
@[simp] theorem flds_87 : flds Tryd.prog 87 = [(0, 1, 3), (1, 1, 3), (2, 1, 3), (3, 1, 3)] := by kernel_rfl
@[simp] theorem zeros_87 : zeros Tryd.prog 87 = some [Value.int IntKind.i64 0, Value.int IntKind.i64 0, Value.int IntKind.i64 0, Value.int IntKind.i64 0] := by kernel_rfl
@[simp] theorem isinfo_87 : (Tryd.prog.info? 87).isSome = true := by kernel_rfl
@[simp] theorem isund_87 : (Tryd.prog.underlying 87).isSome = true := by kernel_rfl
@[simp] theorem cellsOf_90 : Tryd.prog.cellsOf 90 = 1 := by kernel_rfl
@[simp] theorem bytesOf_90 : Tryd.prog.bytesOf 90 = 8 := by kernel_rfl
@[simp] theorem slel_90 : slel Tryd.prog 90 = none := by kernel_rfl
@[simp] theorem isAggB_90 : isAggB Tryd.prog 90 = false := by kernel_rfl
@[simp] theorem tOk_90 : tOk Tryd.prog 90 = true := by kernel_rfl
@[simp] theorem arrOf_90 : arrOf Tryd.prog 90 = none := by kernel_rfl
@[simp] theorem strB_90 : strB Tryd.prog 90 = false := by kernel_rfl
@[simp] theorem bolB_90 : bolB Tryd.prog 90 = false := by kernel_rfl
@[simp] theorem mapB_90 : mapB Tryd.prog 90 = false := by kernel_rfl
@[simp] theorem intK_90 : intK Tryd.prog 90 = none := by kernel_rfl
@[simp] theorem zrow_90 : zrow Tryd.prog 90 = some [AV.sc Value.nilFunc] := by kernel_rfl
@[simp] theorem bldOk_90 : bldOk Tryd.prog 90 = false := by kernel_rfl
@[simp] theorem tcs_90 : tcs Tryd.prog 90 = [90] := by kernel_rfl
@[simp] theorem srcT_90 : srcT Tryd.prog 90 = false := by kernel_rfl
@[simp] theorem zok_90 : zok Tryd.prog 90 = true := by kernel_rfl
@[simp] theorem flds_90 : flds Tryd.prog 90 = [] := by kernel_rfl
@[simp] theorem zeros_90 : zeros Tryd.prog 90 = some [Value.nilFunc] := by kernel_rfl
@[simp] theorem isinfo_90 : (Tryd.prog.info? 90).isSome = true := by kernel_rfl
@[simp] theorem isund_90 : (Tryd.prog.underlying 90).isSome = true := by kernel_rfl
@[simp] theorem cellsOf_91 : Tryd.prog.cellsOf 91 = 1 := by kernel_rfl
@[simp] theorem bytesOf_91 : Tryd.prog.bytesOf 91 = 8 := by kernel_rfl
@[simp] theorem slel_91 : slel Tryd.prog 91 = none := by kernel_rfl
@[simp] theorem isAggB_91 : isAggB Tryd.prog 91 = false := by kernel_rfl
@[simp] theorem tOk_91 : tOk Tryd.prog 91 = true := by kernel_rfl
@[simp] theorem arrOf_91 : arrOf Tryd.prog 91 = none := by kernel_rfl
@[simp] theorem strB_91 : strB Tryd.prog 91 = false := by kernel_rfl
@[simp] theorem bolB_91 : bolB Tryd.prog 91 = false := by kernel_rfl
@[simp] theorem mapB_91 : mapB Tryd.prog 91 = false := by kernel_rfl
@[simp] theorem intK_91 : intK Tryd.prog 91 = none := by kernel_rfl
@[simp] theorem zrow_91 : zrow Tryd.prog 91 = some [AV.sc Value.nilFunc] := by kernel_rfl
@[simp] theorem bldOk_91 : bldOk Tryd.prog 91 = false := by kernel_rfl
@[simp] theorem tcs_91 : tcs Tryd.prog 91 = [91] := by kernel_rfl
@[simp] theorem srcT_91 : srcT Tryd.prog 91 = false := by kernel_rfl
@[simp] theorem zok_91 : zok Tryd.prog 91 = true := by kernel_rfl
@[simp] theorem flds_91 : flds Tryd.prog 91 = [] := by kernel_rfl
@[simp] theorem zeros_91 : zeros Tryd.prog 91 = some [Value.nilFunc] := by kernel_rfl
@[simp] theorem isinfo_91 : (Tryd.prog.info? 91).isSome = true := by kernel_rfl
@[simp] theorem isund_91 : (Tryd.prog.underlying 91).isSome = true := by kernel_rfl
@[simp] theorem cellsOf_93 : Tryd.prog.cellsOf 93 = 1 := by kernel_rfl
@[simp] theorem bytesOf_93 : Tryd.prog.bytesOf 93 = 8 := by kernel_rfl
@[simp] theorem slel_93 : slel Tryd.prog 93 = none := by kernel_rfl
@[simp] theorem isAggB_93 : isAggB Tryd.prog 93 = false := by kernel_rfl
@[simp] theorem tOk_93 : tOk Tryd.prog 93 = true := by kernel_rfl
@[simp] theorem arrOf_93 : arrOf Tryd.prog 93 = none := by kernel_rfl
@[simp] theorem strB_93 : strB Tryd.prog 93 = false := by kernel_rfl
@[simp] theorem bolB_93 : bolB Tryd.prog 93 = false := by kernel_rfl
@[simp] theorem mapB_93 : mapB Tryd.prog 93 = false := by kernel_rfl
@[simp] theorem intK_93 : intK Tryd.prog 93 = some IntKind.u64 := by kernel_rfl
@[simp] theorem zrow_93 : zrow Tryd.prog 93 = some [AV.sc (Value.int IntKind.u64 0)] := by kernel_rfl
@[simp] theorem bldOk_93 : bldOk Tryd.prog 93 = false := by kernel_rfl
@[simp] theorem tcs_93 : tcs Tryd.prog 93 = [93] := by kernel_rfl
@[simp] theorem srcT_93 : srcT Tryd.prog 93 = false := by kernel_rfl
@[simp] theorem zok_93 : zok Tryd.prog 93 = true := by kernel_rfl
@[simp] theorem flds_93 : flds Tryd.prog 93 = [] := by kernel_rfl
@[simp] theorem zeros_93 : zeros Tryd.prog 93 = some [Value.int IntKind.u64 0] := by kernel_rfl
@[simp] theorem isinfo_93 : (Tryd.prog.info? 93).isSome = true := by kernel_rfl
@[simp] theorem isund_93 : (Tryd.prog.underlying 93).isSome = true := by kernel_rfl
@[simp] theorem cellsOf_95 : Tryd.prog.cellsOf 95 = 16 := by kernel_rfl
@[simp] theorem bytesOf_95 : Tryd.prog.bytesOf 95 = 64 := by kernel_rfl
@[simp] theorem slel_95 : slel Tryd.prog 95 = none := by kernel_rfl
@[simp] theorem isAggB_95 : isAggB Tryd.prog 95 = true := by kernel_rfl
@[simp] theorem tOk_95 : tOk Tryd.prog 95 = true := by kernel_rfl
@[simp] theorem arrOf_95 : arrOf Tryd.prog 95 = some (16, 32) := by kernel_rfl
@[simp] theorem strB_95 : strB Tryd.prog 95 = false := by kernel_rfl
@[simp] theorem bolB_95 : bolB Tryd.prog 95 = false := by kernel_rfl
@[simp] theorem mapB_95 : mapB Tryd.prog 95 = false := by kernel_rfl
@[simp] theorem intK_95 : intK Tryd.prog 95 = none := by kernel_rfl
@[simp] theorem zrow_95 : zrow Tryd.prog 95 = some [AV.sc (Value.int IntKind.u32 0), AV.sc (Value.int IntKind.u32 0), AV.sc (Value.int IntKind.u32 0), AV.sc (Value.int IntKind.u32 0), AV.sc (Value.int IntKind.u32 0), AV.sc (Value.int IntKind.u32 0), AV.sc (Value.int IntKind.u32 0), AV.sc (Value.int IntKind.u32 0), AV.sc (Value.int IntKind.u32 0), AV.sc (Value.int IntKind.u32 0), AV.sc (Value.int IntKind.u32 0), AV.sc (Value.int IntKind.u32 0), AV.sc (Value.int IntKind.u32 0), AV.sc (Value.int IntKind.u32 0), AV.sc (Value.int IntKind.u32 0), AV.sc (Value.int IntKind.u32 0)] := by kernel_rfl
@[simp] theorem bldOk_95 : bldOk Tryd.prog 95 = true := by kernel_rfl
@[simp] theorem tcs_95 : tcs Tryd.prog 95 = [32, 32, 32, 32, 32, 32, 32, 32, 32, 32, 32, 32, 32, 32, 32, 32] := by kernel_rfl
@[simp] theorem srcT_95 : srcT Tryd.prog 95 = false := by kernel_rfl
@[simp] theorem zok_95 : zok Tryd.prog 95 = true := by kernel_rfl
@[simp] theorem flds_95 : flds Tryd.prog 95 = [] := by kernel_rfl
@[simp] theorem zeros_95 : zeros Tryd.prog 95 = some [Value.int IntKind.u32 0, Value.int IntKind.u32 0, Value.int IntKind.u32 0, Value.int IntKind.u32 0, Value.int IntKind.u32 0, Value.int IntKind.u32 0, Value.int IntKind.u32 0, Value.int IntKind.u32 0, Value.int IntKind.u32 0, Value.int IntKind.u32 0, Value.int IntKind.u32 0, Value.int IntKind.u32 0, Value.int IntKind.u32 0, Value.int IntKind.u32 0, Value.int IntKind.u32 0, Value.int IntKind.u32 0] := by kernel_rfl
@[simp] theorem isinfo_95 : (Tryd.prog.info? 95).isSome = true := by kernel_rfl
@[simp] theorem isund_95 : (Tryd.prog.underlying 95).isSome = true := by kernel_rfl
@[simp] theorem cellsOf_97 : Tryd.prog.cellsOf 97 = 22 := by kernel_rfl
@[simp] theorem bytesOf_97 : Tryd.prog.bytesOf 97 = 136 := by kernel_rfl
@[simp] theorem slel_97 : slel Tryd.prog 97 = none := by kernel_rfl
@[simp] theorem isAggB_97 : isAggB Tryd.prog 97 = true := by kernel_rfl
@[simp] theorem tOk_97 : tOk Tryd.prog 97 = true := by kernel_rfl
@[simp] theorem arrOf_97 : arrOf Tryd.prog 97 = none := by kernel_rfl
@[simp] theorem strB_97 : strB Tryd.prog 97 = false := by kernel_rfl
@[simp] theorem bolB_97 : bolB Tryd.prog 97 = false := by kernel_rfl
@[simp] theorem mapB_97 : mapB Tryd.prog 97 = false := by kernel_rfl
@[simp] theorem intK_97 : intK Tryd.prog 97 = none := by kernel_rfl
@[simp] theorem zrow_97 : zrow Tryd.prog 97 = some [AV.sc (Value.int IntKind.i64 0), AV.sc (Value.int IntKind.u32 0), AV.sc (Value.int IntKind.u32 0), AV.sc (Value.int IntKind.u32 0), AV.sc (Value.int IntKind.u32 0), AV.sc (Value.int IntKind.u32 0), AV.sc (Value.int IntKind.u32 0), AV.sc (Value.int IntKind.u32 0), AV.sc (Value.int IntKind.u32 0), AV.sc (Value.int IntKind.u32 0), AV.sc (Value.int IntKind.u32 0), AV.sc (Value.int IntKind.u32 0), AV.sc (Value.int IntKind.u32 0), AV.sc (Value.int IntKind.u32 0), AV.sc (Value.int IntKind.u32 0), AV.sc (Value.int IntKind.u32 0), AV.sc (Value.int IntKind.u32 0), AV.sl false 1 [], AV.sc (Value.int IntKind.i64 0), AV.sc (Value.string { data := { toList := [] } }), AV.sc (Value.int IntKind.i64 0), AV.sc (Value.int IntKind.i64 0)] := by kernel_rfl
@[simp] theorem bldOk_97 : bldOk Tryd.prog 97 = true := by kernel_rfl
@[simp] theorem tcs_97 : tcs Tryd.prog 97 = [3, 32, 32, 32, 32, 32, 32, 32, 32, 32, 32, 32, 32, 32, 32, 32, 32, 55, 3, 9, 3, 3] := by kernel_rfl
@[simp] theorem srcT_97 : srcT Tryd.prog 97 = false := by kernel_rfl
@[simp] theorem zok_97 : zok Tryd.prog 97 = true := by kernel_rfl
@[simp] theorem flds_97 : flds Tryd.prog 97 = [(0, 1, 3), (1, 16, 95), (17, 1, 55), (18, 1, 3), (19, 1, 9), (20, 1, 3), (21, 1, 3)] := by kernel_rfl
@[simp] theorem zeros_97 : zeros Tryd.prog 97 = some [Value.int IntKind.i64 0, Value.int IntKind.u32 0, Value.int IntKind.u32 0, Value.int IntKind.u32 0, Value.int IntKind.u32 0, Value.int IntKind.u32 0, Value.int IntKind.u32 0, Value.int IntKind.u32 0, Value.int IntKind.u32 0, Value.int IntKind.u32 0, Value.int IntKind.u32 0, Value.int IntKind.u32 0, Value.int IntKind.u32 0, Value.int IntKind.u32 0, Value.int IntKind.u32 0, Value.int IntKind.u32 0, Value.int IntKind.u32 0, Value.slice none 0 0, Value.int IntKind.i64 0, Value.string { data := { toList := [] } }, Value.int IntKind.i64 0, Value.int IntKind.i64 0] := by kernel_rfl
@[simp] theorem isinfo_97 : (Tryd.prog.info? 97).isSome = true := by kernel_rfl
@[simp] theorem isund_97 : (Tryd.prog.underlying 97).isSome = true := by kernel_rfl
@[simp] theorem cellsOf_101 : Tryd.prog.cellsOf 101 = 1 := by kernel_rfl
@[simp] theorem bytesOf_101 : Tryd.prog.bytesOf 101 = 8 := by kernel_rfl
@[simp] theorem slel_101 : slel Tryd.prog 101 = none := by kernel_rfl
@[simp] theorem isAggB_101 : isAggB Tryd.prog 101 = false := by kernel_rfl
@[simp] theorem tOk_101 : tOk Tryd.prog 101 = true := by kernel_rfl
@[simp] theorem arrOf_101 : arrOf Tryd.prog 101 = none := by kernel_rfl
@[simp] theorem strB_101 : strB Tryd.prog 101 = false := by kernel_rfl
@[simp] theorem bolB_101 : bolB Tryd.prog 101 = false := by kernel_rfl
@[simp] theorem mapB_101 : mapB Tryd.prog 101 = false := by kernel_rfl
@[simp] theorem intK_101 : intK Tryd.prog 101 = some IntKind.u64 := by kernel_rfl
@[simp] theorem zrow_101 : zrow Tryd.prog 101 = some [AV.sc (Value.int IntKind.u64 0)] := by kernel_rfl
@[simp] theorem bldOk_101 : bldOk Tryd.prog 101 = false := by kernel_rfl
@[simp] theorem tcs_101 : tcs Tryd.prog 101 = [101] := by kernel_rfl
@[simp] theorem srcT_101 : srcT Tryd.prog 101 = false := by kernel_rfl
@[simp] theorem zok_101 : zok Tryd.prog 101 = true := by kernel_rfl
@[simp] theorem flds_101 : flds Tryd.prog 101 = [] := by kernel_rfl
@[simp] theorem zeros_101 : zeros Tryd.prog 101 = some [Value.int IntKind.u64 0] := by kernel_rfl
@[simp] theorem isinfo_101 : (Tryd.prog.info? 101).isSome = true := by kernel_rfl
@[simp] theorem isund_101 : (Tryd.prog.underlying 101).isSome = true := by kernel_rfl
@[simp] theorem cellsOf_102 : Tryd.prog.cellsOf 102 = 8 := by kernel_rfl
@[simp] theorem bytesOf_102 : Tryd.prog.bytesOf 102 = 32 := by kernel_rfl
@[simp] theorem slel_102 : slel Tryd.prog 102 = none := by kernel_rfl
@[simp] theorem isAggB_102 : isAggB Tryd.prog 102 = true := by kernel_rfl
@[simp] theorem tOk_102 : tOk Tryd.prog 102 = true := by kernel_rfl
@[simp] theorem arrOf_102 : arrOf Tryd.prog 102 = some (8, 32) := by kernel_rfl
@[simp] theorem strB_102 : strB Tryd.prog 102 = false := by kernel_rfl
@[simp] theorem bolB_102 : bolB Tryd.prog 102 = false := by kernel_rfl
@[simp] theorem mapB_102 : mapB Tryd.prog 102 = false := by kernel_rfl
@[simp] theorem intK_102 : intK Tryd.prog 102 = none := by kernel_rfl
@[simp] theorem zrow_102 : zrow Tryd.prog 102 = some [AV.sc (Value.int IntKind.u32 0), AV.sc (Value.int IntKind.u32 0), AV.sc (Value.int IntKind.u32 0), AV.sc (Value.int IntKind.u32 0), AV.sc (Value.int IntKind.u32 0), AV.sc (Value.int IntKind.u32 0), AV.sc (Value.int IntKind.u32 0), AV.sc (Value.int IntKind.u32 0)] := by kernel_rfl
@[simp] theorem bldOk_102 : bldOk Tryd.prog 102 = true := by kernel_rfl
@[simp] theorem tcs_102 : tcs Tryd.prog 102 = [32, 32, 32, 32, 32, 32, 32, 32] := by kernel_rfl
@[simp] theorem srcT_102 : srcT Tryd.prog 102 = false := by kernel_rfl
@[simp] theorem zok_102 : zok Tryd.prog 102 = true := by kernel_rfl
@[simp] theorem flds_102 : flds Tryd.prog 102 = [] := by kernel_rfl
@[simp] theorem zeros_102 : zeros Tryd.prog 102 = some [Value.int IntKind.u32 0, Value.int IntKind.u32 0, Value.int IntKind.u32 0, Value.int IntKind.u32 0, Value.int IntKind.u32 0, Value.int IntKind.u32 0, Value.int IntKind.u32 0, Value.int IntKind.u32 0] := by kernel_rfl
@[simp] theorem isinfo_102 : (Tryd.prog.info? 102).isSome = true := by kernel_rfl
@[simp] theorem isund_102 : (Tryd.prog.underlying 102).isSome = true := by kernel_rfl
@[simp] theorem cellsOf_105 : Tryd.prog.cellsOf 105 = 1 := by kernel_rfl
@[simp] theorem bytesOf_105 : Tryd.prog.bytesOf 105 = 0 := by kernel_rfl
@[simp] theorem slel_105 : slel Tryd.prog 105 = none := by kernel_rfl
@[simp] theorem isAggB_105 : isAggB Tryd.prog 105 = false := by kernel_rfl
@[simp] theorem tOk_105 : tOk Tryd.prog 105 = true := by kernel_rfl
@[simp] theorem arrOf_105 : arrOf Tryd.prog 105 = none := by kernel_rfl
@[simp] theorem strB_105 : strB Tryd.prog 105 = false := by kernel_rfl
@[simp] theorem bolB_105 : bolB Tryd.prog 105 = false := by kernel_rfl
@[simp] theorem mapB_105 : mapB Tryd.prog 105 = false := by kernel_rfl
@[simp] theorem intK_105 : intK Tryd.prog 105 = none := by kernel_rfl
@[simp] theorem zrow_105 : zrow Tryd.prog 105 = none := by kernel_rfl
@[simp] theorem bldOk_105 : bldOk Tryd.prog 105 = false := by kernel_rfl
@[simp] theorem tcs_105 : tcs Tryd.prog 105 = [105] := by kernel_rfl
@[simp] theorem srcT_105 : srcT Tryd.prog 105 = false := by kernel_rfl
@[simp] theorem zok_105 : zok Tryd.prog 105 = true := by kernel_rfl
@[simp] theorem flds_105 : flds Tryd.prog 105 = [] := by kernel_rfl
@[simp] theorem zeros_105 : zeros Tryd.prog 105 = some [Value.tuple { toList := [Value.slice none 0 0, Value.int IntKind.i64 0] }] := by kernel_rfl
@[simp] theorem isinfo_105 : (Tryd.prog.info? 105).isSome = true := by kernel_rfl
@[simp] theorem isund_105 : (Tryd.prog.underlying 105).isSome = true := by kernel_rfl
@[simp] theorem cellsOf_108 : Tryd.prog.cellsOf 108 = 1 := by kernel_rfl
@[simp] theorem bytesOf_108 : Tryd.prog.bytesOf 108 = 8 := by kernel_rfl
@[simp] theorem slel_108 : slel Tryd.prog 108 = none := by kernel_rfl
@[simp] theorem isAggB_108 : isAggB Tryd.prog 108 = false := by kernel_rfl
@[simp] theorem tOk_108 : tOk Tryd.prog 108 = true := by kernel_rfl
@[simp] theorem arrOf_108 : arrOf Tryd.prog 108 = none := by kernel_rfl
@[simp] theorem strB_108 : strB Tryd.prog 108 = false := by kernel_rfl
@[simp] theorem bolB_108 : bolB Tryd.prog 108 = false := by kernel_rfl
@[simp] theorem mapB_108 : mapB Tryd.prog 108 = false := by kernel_rfl
@[simp] theorem intK_108 : intK Tryd.prog 108 = none := by kernel_rfl
@[simp] theorem zrow_108 : zrow Tryd.prog 108 = some [AV.sc Value.nilFunc] := by kernel_rfl
@[simp] theorem bldOk_108 : bldOk Tryd.prog 108 = false := by kernel_rfl
@[simp] theorem tcs_108 : tcs Tryd.prog 108 = [108] := by kernel_rfl
@[simp] theorem srcT_108 : srcT Tryd.prog 108 = false := by kernel_rfl
@[simp] theorem zok_108 : zok Tryd.prog 108 = true := by kernel_rfl
@[simp] theorem flds_108 : flds Tryd.prog 108 = [] := by kernel_rfl
@[simp] theorem zeros_108 : zeros Tryd.prog 108 = some [Value.nilFunc] := by kernel_rfl
@[simp] theorem isinfo_108 : (Tryd.prog.info? 108).isSome = true := by kernel_rfl
@[simp] theorem isund_108 : (Tryd.prog.underlying 108).isSome = true := by kernel_rfl
@[simp] theorem cellsOf_109 : Tryd.prog.cellsOf 109 = 1 := by kernel_rfl
@[simp] theorem bytesOf_109 : Tryd.prog.bytesOf 109 = 24 := by kernel_rfl
@[simp] theorem slel_109 : slel Tryd.prog 109 = some 5 := by kernel_rfl
@[simp] theorem isAggB_109 : isAggB Tryd.prog 109 = false := by kernel_rfl
@[simp] theorem tOk_109 : tOk Tryd.prog 109 = true := by kernel_rfl
@[simp] theorem arrOf_109 : arrOf Tryd.prog 109 = none := by kernel_rfl
@[simp] theorem strB_109 : strB Tryd.prog 109 = false := by kernel_rfl
@[simp] theorem bolB_109 : bolB Tryd.prog 109 = false := by kernel_rfl
@[simp] theorem mapB_109 : mapB Tryd.prog 109 = false := by kernel_rfl
@[simp] theorem intK_109 : intK Tryd.prog 109 = none := by kernel_rfl
@[simp] theorem zrow_109 : zrow Tryd.prog 109 = some [AV.sl false 1 []] := by kernel_rfl
@[simp] theorem bldOk_109 : bldOk Tryd.prog 109 = false := by kernel_rfl
@[simp] theorem tcs_109 : tcs Tryd.prog 109 = [109] := by kernel_rfl
@[simp] theorem srcT_109 : srcT Tryd.prog 109 = true := by kernel_rfl
@[simp] theorem zok_109 : zok Tryd.prog 109 = true := by kernel_rfl
@[simp] theorem flds_109 : flds Tryd.prog 109 = [] := by kernel_rfl
@[simp] theorem zeros_109 : zeros Tryd.prog 109 = some [Value.slice none 0 0] := by kernel_rfl
@[simp] theorem isinfo_109 : (Tryd.prog.info? 109).isSome = true := by kernel_rfl
@[simp] theorem isund_109 : (Tryd.prog.underlying 109).isSome = true := by kernel_rfl
@[simp] theorem cellsOf_114 : Tryd.prog.cellsOf 114 = 1 := by kernel_rfl
@[simp] theorem bytesOf_114 : Tryd.prog.bytesOf 114 = 0 := by kernel_rfl
@[simp] theorem slel_114 : slel Tryd.prog 114 = none := by kernel_rfl
@[simp] theorem isAggB_114 : isAggB Tryd.prog 114 = false := by kernel_rfl
@[simp] theorem tOk_114 : tOk Tryd.prog 114 = true := by kernel_rfl
@[simp] theorem arrOf_114 : arrOf Tryd.prog 114 = none := by kernel_rfl
@[simp] theorem strB_114 : strB Tryd.prog 114 = false := by kernel_rfl
@[simp] theorem bolB_114 : bolB Tryd.prog 114 = false := by kernel_rfl
@[simp] theorem mapB_114 : mapB Tryd.prog 114 = false := by kernel_rfl
@[simp] theorem intK_114 : intK Tryd.prog 114 = none := by kernel_rfl
@[simp] theorem zrow_114 : zrow Tryd.prog 114 = none := by kernel_rfl
@[simp] theorem bldOk_114 : bldOk Tryd.prog 114 = false := by kernel_rfl
@[simp] theorem tcs_114 : tcs Tryd.prog 114 = [114] := by kernel_rfl
@[simp] theorem srcT_114 : srcT Tryd.prog 114 = false := by kernel_rfl
@[simp] theorem zok_114 : zok Tryd.prog 114 = true := by kernel_rfl
@[simp] theorem flds_114 : flds Tryd.prog 114 = [] := by kernel_rfl
@[simp] theorem zeros_114 : zeros Tryd.prog 114 = some [Value.tuple { toList := [Value.agg { toList := [Value.int IntKind.u32 0, Value.int IntKind.u32 0, Value.int IntKind.u32 0, Value.int IntKind.u32 0] }, Value.bool false] }] := by kernel_rfl
@[simp] theorem isinfo_114 : (Tryd.prog.info? 114).isSome = true := by kernel_rfl
@[simp] theorem isund_114 : (Tryd.prog.underlying 114).isSome = true := by kernel_rfl
@[simp] theorem cellsOf_117 : Tryd.prog.cellsOf 117 = 1 := by kernel_rfl
@[simp] theorem bytesOf_117 : Tryd.prog.bytesOf 117 = 24 := by kernel_rfl
@[simp] theorem slel_117 : slel Tryd.prog 117 = some 87 := by kernel_rfl
@[simp] theorem isAggB_117 : isAggB Tryd.prog 117 = false := by kernel_rfl
@[simp] theorem tOk_117 : tOk Tryd.prog 117 = true := by kernel_rfl
@[simp] theorem arrOf_117 : arrOf Tryd.prog 117 = none := by kernel_rfl
@[simp] theorem strB_117 : strB Tryd.prog 117 = false := by kernel_rfl
@[simp] theorem bolB_117 : bolB Tryd.prog 117 = false := by kernel_rfl
@[simp] theorem mapB_117 : mapB Tryd.prog 117 = false := by kernel_rfl
@[simp] theorem intK_117 : intK Tryd.prog 117 = none := by kernel_rfl
@[simp] theorem zrow_117 : zrow Tryd.prog 117 = some [AV.sl false 4 []] := by kernel_rfl
@[simp] theorem bldOk_117 : bldOk Tryd.prog 117 = false := by kernel_rfl
@[simp] theorem tcs_117 : tcs Tryd.prog 117 = [117] := by kernel_rfl
@[simp] theorem srcT_117 : srcT Tryd.prog 117 = true := by kernel_rfl
@[simp] theorem zok_117 : zok Tryd.prog 117 = true := by kernel_rfl
@[simp] theorem flds_117 : flds Tryd.prog 117 = [] := by kernel_rfl
@[simp] theorem zeros_117 : zeros Tryd.prog 117 = some [Value.slice none 0 0] := by kernel_rfl
@[simp] theorem isinfo_117 : (Tryd.prog.info? 117).isSome = true := by kernel_rfl
@[simp] theorem isund_117 : (Tryd.prog.underlying 117).isSome = true := by kernel_rfl
@[simp] theorem cellsOf_118 : Tryd.prog.cellsOf 118 = 1 := by kernel_rfl
@[simp] theorem bytesOf_118 : Tryd.prog.bytesOf 118 = 0 := by kernel_rfl
@[simp] theorem slel_118 : slel Tryd.prog 118 = none := by kernel_rfl
@[simp] theorem isAggB_118 : isAggB Tryd.prog 118 = false := by kernel_rfl
@[simp] theorem tOk_118 : tOk Tryd.prog 118 = true := by kernel_rfl
@[simp] theorem arrOf_118 : arrOf Tryd.prog 118 = none := by kernel_rfl
@[simp] theorem strB_118 : strB Tryd.prog 118 = false := by kernel_rfl
@[simp] theorem bolB_118 : bolB Tryd.prog 118 = false := by kernel_rfl
@[simp] theorem mapB_118 : mapB Tryd.prog 118 = false := by kernel_rfl
@[simp] theorem intK_118 : intK Tryd.prog 118 = none := by kernel_rfl
@[simp] theorem zrow_118 : zrow Tryd.prog 118 = none := by kernel_rfl
@[simp] theorem bldOk_118 : bldOk Tryd.prog 118 = false := by kernel_rfl
@[simp] theorem tcs_118 : tcs Tryd.prog 118 = [118] := by kernel_rfl
@[simp] theorem srcT_118 : srcT Tryd.prog 118 = false := by kernel_rfl
@[simp] theorem zok_118 : zok Tryd.prog 118 = true := by kernel_rfl
@[simp] theorem flds_118 : flds Tryd.prog 118 = [] := by kernel_rfl
@[simp] theorem zeros_118 : zeros Tryd.prog 118 = some [Value.tuple { toList := [Value.int IntKind.u32 0, Value.int IntKind.i64 0] }] := by kernel_rfl
@[simp] theorem isinfo_118 : (Tryd.prog.info? 118).isSome = true := by kernel_rfl
@[simp] theorem isund_118 : (Tryd.prog.underlying 118).isSome = true := by kernel_rfl
@[simp] theorem cellsOf_121 : Tryd.prog.cellsOf 121 = 1 := by kernel_rfl
@[simp] theorem bytesOf_121 : Tryd.prog.bytesOf 121 = 8 := by kernel_rfl
@[simp] theorem slel_121 : slel Tryd.prog 121 = none := by kernel_rfl
@[simp] theorem isAggB_121 : isAggB Tryd.prog 121 = false := by kernel_rfl
@[simp] theorem tOk_121 : tOk Tryd.prog 121 = true := by kernel_rfl
@[simp] theorem arrOf_121 : arrOf Tryd.prog 121 = none := by kernel_rfl
@[simp] theorem strB_121 : strB Tryd.prog 121 = false := by kernel_rfl
@[simp] theorem bolB_121 : bolB Tryd.prog 121 = false := by kernel_rfl
@[simp] theorem mapB_121 : mapB Tryd.prog 121 = false := by kernel_rfl
@[simp] theorem intK_121 : intK Tryd.prog 121 = none := by kernel_rfl
@[simp] theorem zrow_121 : zrow Tryd.prog 121 = some [AV.sc Value.nilFunc] := by kernel_rfl
@[simp] theorem bldOk_121 : bldOk Tryd.prog 121 = false := by kernel_rfl
@[simp] theorem tcs_121 : tcs Tryd.prog 121 = [121] := by kernel_rfl
@[simp] theorem srcT_121 : srcT Tryd.prog 121 = false := by kernel_rfl
@[simp] theorem zok_121 : zok Tryd.prog 121 = true := by kernel_rfl
@[simp] theorem flds_121 : flds Tryd.prog 121 = [] := by kernel_rfl
@[simp] theorem zeros_121 : zeros Tryd.prog 121 = some [Value.nilFunc] := by kernel_rfl
@[simp] theorem isinfo_121 : (Tryd.prog.info? 121).isSome = true := by kernel_rfl
@[simp] theorem isund_121 : (Tryd.prog.underlying 121).isSome = true := by kernel_rfl
@[simp] theorem cellsOf_122 : Tryd.prog.cellsOf 122 = 1 := by kernel_rfl
@[simp] theorem bytesOf_122 : Tryd.prog.bytesOf 122 = 24 := by kernel_rfl
@[simp] theorem slel_122 : slel Tryd.prog 122 = some 3 := by kernel_rfl
@[simp] theorem isAggB_122 : isAggB Tryd.prog 122 = false := by kernel_rfl
@[simp] theorem tOk_122 : tOk Tryd.prog 122 = true := by kernel_rfl
@[simp] theorem arrOf_122 : arrOf Tryd.prog 122 = none := by kernel_rfl
@[simp] theorem strB_122 : strB Tryd.prog 122 = false := by kernel_rfl
@[simp] theorem bolB_122 : bolB Tryd.prog 122 = false := by kernel_rfl
@[simp] theorem mapB_122 : mapB Tryd.prog 122 = false := by kernel_rfl
@[simp] theorem intK_122 : intK Tryd.prog 122 = none := by kernel_rfl
@[simp] theorem zrow_122 : zrow Tryd.prog 122 = some [AV.sl false 1 []] := by kernel_rfl
@[simp] theorem bldOk_122 : bldOk Tryd.prog 122 = false := by kernel_rfl
@[simp] theorem tcs_122 : tcs Tryd.prog 122 = [122] := by kernel_rfl
@[simp] theorem srcT_122 : srcT Tryd.prog 122 = true := by kernel_rfl
@[simp] theorem zok_122 : zok Tryd.prog 122 = true := by kernel_rfl
@[simp] theorem flds_122 : flds Tryd.prog 122 = [] := by kernel_rfl
@[simp] theorem zeros_122 : zeros Tryd.prog 122 = some [Value.slice none 0 0] := by kernel_rfl
@[simp] theorem isinfo_122 : (Tryd.prog.info? 122).isSome = true := by kernel_rfl
@[simp] theorem isund_122 : (Tryd.prog.underlying 122).isSome = true := by kernel_rfl
@[simp] theorem cellsOf_123 : Tryd.prog.cellsOf 123 = 1 := by kernel_rfl
@[simp] theorem bytesOf_123 : Tryd.prog.bytesOf 123 = 0 := by kernel_rfl
@[simp] theorem slel_123 : slel Tryd.prog 123 = none := by kernel_rfl
@[simp] theorem isAggB_123 : isAggB Tryd.prog 123 = false := by kernel_rfl
@[simp] theorem tOk_123 : tOk Tryd.prog 123 = true := by kernel_rfl
@[simp] theorem arrOf_123 : arrOf Tryd.prog 123 = none := by kernel_rfl
@[simp] theorem strB_123 : strB Tryd.prog 123 = false := by kernel_rfl
@[simp] theorem bolB_123 : bolB Tryd.prog 123 = false := by kernel_rfl
@[simp] theorem mapB_123 : mapB Tryd.prog 123 = false := by kernel_rfl
@[simp] theorem intK_123 : intK Tryd.prog 123 = none := by kernel_rfl
@[simp] theorem zrow_123 : zrow Tryd.prog 123 = none := by kernel_rfl
@[simp] theorem bldOk_123 : bldOk Tryd.prog 123 = false := by kernel_rfl
@[simp] theorem tcs_123 : tcs Tryd.prog 123 = [123] := by kernel_rfl
@[simp] theorem srcT_123 : srcT Tryd.prog 123 = false := by kernel_rfl
@[simp] theorem zok_123 : zok Tryd.prog 123 = true := by kernel_rfl
@[simp] theorem flds_123 : flds Tryd.prog 123 = [] := by kernel_rfl
@[simp] theorem zeros_123 : zeros Tryd.prog 123 = some [Value.tuple { toList := [Value.agg { toList := [Value.int IntKind.i64 0, Value.int IntKind.u32 0, Value.int IntKind.u32 0, Value.int IntKind.u32 0, Value.int IntKind.u32 0, Value.int IntKind.u32 0, Value.int IntKind.u32 0, Value.int IntKind.u32 0, Value.int IntKind.u32 0, Value.int IntKind.u32 0, Value.int IntKind.u32 0, Value.int IntKind.u32 0, Value.int IntKind.u32 0, Value.int IntKind.u32 0, Value.int IntKind.u32 0, Value.int IntKind.u32 0, Value.int IntKind.u32 0, Value.slice none 0 0, Value.int IntKind.i64 0, Value.string { data := { toList := [] } }, Value.int IntKind.i64 0, Value.int IntKind.i64 0] }, Value.slice none 0 0] }] := by kernel_rfl
@[simp] theorem isinfo_123 : (Tryd.prog.info? 123).isSome = true := by kernel_rfl
@[simp] theorem isund_123 : (Tryd.prog.underlying 123).isSome = true := by kernel_rfl
@[simp] theorem cellsOf_129 : Tryd.prog.cellsOf 129 = 21 := by kernel_rfl
@[simp] theorem bytesOf_129 : Tryd.prog.bytesOf 129 = 21 := by kernel_rfl
@[simp] theorem slel_129 : slel Tryd.prog 129 = none := by kernel_rfl
@[simp] theorem isAggB_129 : isAggB Tryd.prog 129 = true := by kernel_rfl
@[simp] theorem tOk_129 : tOk Tryd.prog 129 = true := by kernel_rfl
@[simp] theorem arrOf_129 : arrOf Tryd.prog 129 = some (21, 5) := by kernel_rfl
@[simp] theorem strB_129 : strB Tryd.prog 129 = false := by kernel_rfl
@[simp] theorem bolB_129 : bolB Tryd.prog 129 = false := by kernel_rfl
@[simp] theorem mapB_129 : mapB Tryd.prog 129 = false := by kernel_rfl
@[simp] theorem intK_129 : intK Tryd.prog 129 = none := by kernel_rfl
@[simp] theorem zrow_129 : zrow Tryd.prog 129 = some [AV.sc (Value.int IntKind.u8 0), AV.sc (Value.int IntKind.u8 0), AV.sc (Value.int IntKind.u8 0), AV.sc (Value.int IntKind.u8 0), AV.sc (Value.int IntKind.u8 0), AV.sc (Value.int IntKind.u8 0), AV.sc (Value.int IntKind.u8 0), AV.sc (Value.int IntKind.u8 0), AV.sc (Value.int IntKind.u8 0), AV.sc (Value.int IntKind.u8 0), AV.sc (Value.int IntKind.u8 0), AV.sc (Value.int IntKind.u8 0), AV.sc (Value.int IntKind.u8 0), AV.sc (Value.int IntKind.u8 0), AV.sc (Value.int IntKind.u8 0), AV.sc (Value.int IntKind.u8 0), AV.sc (Value.int IntKind.u8 0), AV.sc (Value.int IntKind.u8 0), AV.sc (Value.int IntKind.u8 0), AV.sc (Value.int IntKind.u8 0), AV.sc (Value.int IntKind.u8 0)] := by kernel_rfl
@[simp] theorem bldOk_129 : bldOk Tryd.prog 129 = true := by kernel_rfl
@[simp] theorem tcs_129 : tcs Tryd.prog 129 = [5, 5, 5, 5, 5, 5, 5, 5, 5, 5, 5, 5, 5, 5, 5, 5, 5, 5, 5, 5, 5] := by kernel_rfl
@[simp] theorem srcT_129 : srcT Tryd.prog 129 = false := by kernel_rfl
@[simp] theorem zok_129 : zok Tryd.prog 129 = true := by kernel_rfl
@[simp] theorem flds_129 : flds Tryd.prog 129 = [] := by kernel_rfl
@[simp] theorem zeros_129 : zeros Tryd.prog 129 = some [Value.int IntKind.u8 0, Value.int IntKind.u8 0, Value.int IntKind.u8 0, Value.int IntKind.u8 0, Value.int IntKind.u8 0, Value.int IntKind.u8 0, Value.int IntKind.u8 0, Value.int IntKind.u8 0, Value.int IntKind.u8 0, Value.int IntKind.u8 0, Value.int IntKind.u8 0, Value.int IntKind.u8 0, Value.int IntKind.u8 0, Value.int IntKind.u8 0, Value.int IntKind.u8 0, Value.int IntKind.u8 0, Value.int IntKind.u8 0, Value.int IntKind.u8 0, Value.int IntKind.u8 0, Value.int IntKind.u8 0, Value.int IntKind.u8 0] := by kernel_rfl
@[simp] theorem isinfo_129 : (Tryd.prog.info? 129).isSome = true := by kernel_rfl
@[simp] theorem isund_129 : (Tryd.prog.underlying 129).isSome = true := by kernel_rfl
@[simp] theorem cellsOf_130 : Tryd.prog.cellsOf 130 = 1 := by kernel_rfl
@[simp] theorem bytesOf_130 : Tryd.prog.bytesOf 130 = 8 := by kernel_rfl
@[simp] theorem slel_130 : slel Tryd.prog 130 = none := by kernel_rfl
@[simp] theorem isAggB_130 : isAggB Tryd.prog 130 = false := by kernel_rfl
@[simp] theorem tOk_130 : tOk Tryd.prog 130 = true := by kernel_rfl
@[simp] theorem arrOf_130 : arrOf Tryd.prog 130 = none := by kernel_rfl
@[simp] theorem strB_130 : strB Tryd.prog 130 = false := by kernel_rfl
@[simp] theorem bolB_130 : bolB Tryd.prog 130 = false := by kernel_rfl
@[simp] theorem mapB_130 : mapB Tryd.prog 130 = false := by kernel_rfl
@[simp] theorem intK_130 : intK Tryd.prog 130 = none := by kernel_rfl
@[simp] theorem zrow_130 : zrow Tryd.prog 130 = some [AV.sc Value.nilFunc] := by kernel_rfl
@[simp] theorem bldOk_130 : bldOk Tryd.prog 130 = false := by kernel_rfl
@[simp] theorem tcs_130 : tcs Tryd.prog 130 = [130] := by kernel_rfl
@[simp] theorem srcT_130 : srcT Tryd.prog 130 = false := by kernel_rfl
@[simp] theorem zok_130 : zok Tryd.prog 130 = true := by kernel_rfl
@[simp] theorem flds_130 : flds Tryd.prog 130 = [] := by kernel_rfl
@[simp] theorem zeros_130 : zeros Tryd.prog 130 = some [Value.nilFunc] := by kernel_rfl
@[simp] theorem isinfo_130 : (Tryd.prog.info? 130).isSome = true := by kernel_rfl
@[simp] theorem isund_130 : (Tryd.prog.underlying 130).isSome = true := by kernel_rfl
@[simp] theorem cellsOf_132 : Tryd.prog.cellsOf 132 = 1 := by kernel_rfl
@[simp] theorem bytesOf_132 : Tryd.prog.bytesOf 132 = 8 := by kernel_rfl
@[simp] theorem slel_132 : slel Tryd.prog 132 = none := by kernel_rfl
@[simp] theorem isAggB_132 : isAggB Tryd.prog 132 = false := by kernel_rfl
@[simp] theorem tOk_132 : tOk Tryd.prog 132 = true := by kernel_rfl
@[simp] theorem arrOf_132 : arrOf Tryd.prog 132 = none := by kernel_rfl
@[simp] theorem strB_132 : strB Tryd.prog 132 = false := by kernel_rfl
@[simp] theorem bolB_132 : bolB Tryd.prog 132 = false := by kernel_rfl
@[simp] theorem mapB_132 : mapB Tryd.prog 132 = false := by kernel_rfl
@[simp] theorem intK_132 : intK Tryd.prog 132 = none := by kernel_rfl
@[simp] theorem zrow_132 : zrow Tryd.prog 132 = some [AV.sc Value.nilFunc] := by kernel_rfl
@[simp] theorem bldOk_132 : bldOk Tryd.prog 132 = false := by kernel_rfl
@[simp] theorem tcs_132 : tcs Tryd.prog 132 = [132] := by kernel_rfl
@[simp] theorem srcT_132 : srcT Tryd.prog 132 = false := by kernel_rfl
@[simp] theorem zok_132 : zok Tryd.prog 132 = true := by kernel_rfl
@[simp] theorem flds_132 : flds Tryd.prog 132 = [] := by kernel_rfl
@[simp] theorem zeros_132 : zeros Tryd.prog 132 = some [Value.nilFunc] := by kernel_rfl
@[simp] theorem isinfo_132 : (Tryd.prog.info? 132).isSome = true := by kernel_rfl
@[simp] theorem isund_132 : (Tryd.prog.underlying 132).isSome = true := by kernel_rfl
@[simp] theorem cellsOf_134 : Tryd.prog.cellsOf 134 = 2 := by kernel_rfl
@[simp] theorem bytesOf_134 : Tryd.prog.bytesOf 134 = 32 := by kernel_rfl
@[simp] theorem slel_134 : slel Tryd.prog 134 = none := by kernel_rfl
@[simp] theorem isAggB_134 : isAggB Tryd.prog 134 = true := by kernel_rfl
@[simp] theorem tOk_134 : tOk Tryd.prog 134 = true := by kernel_rfl
@[simp] theorem arrOf_134 : arrOf Tryd.prog 134 = none := by kernel_rfl
@[simp] theorem strB_134 : strB Tryd.prog 134 = false := by kernel_rfl
@[simp] theorem bolB_134 : bolB Tryd.prog 134 = false := by kernel_rfl
@[simp] theorem mapB_134 : mapB Tryd.prog 134 = false := by kernel_rfl
@[simp] theorem intK_134 : intK Tryd.prog 134 = none := by kernel_rfl
@[simp] theorem zrow_134 : zrow Tryd.prog 134 = some [AV.sl false 4 [], AV.sc (Value.bool false)] := by kernel_rfl
@[simp] theorem bldOk_134 : bldOk Tryd.prog 134 = true := by kernel_rfl
@[simp] theorem tcs_134 : tcs Tryd.prog 134 = [43, 4] := by kernel_rfl
@[simp] theorem srcT_134 : srcT Tryd.prog 134 = false := by kernel_rfl
@[simp] theorem zok_134 : zok Tryd.prog 134 = true := by kernel_rfl
@[simp] theorem flds_134 : flds Tryd.prog 134 = [(0, 1, 43), (1, 1, 4)] := by kernel_rfl
@[simp] theorem zeros_134 : zeros Tryd.prog 134 = some [Value.slice none 0 0, Value.bool false] := by kernel_rfl
@[simp] theorem isinfo_134 : (Tryd.prog.info? 134).isSome = true := by kernel_rfl
@[simp] theorem isund_134 : (Tryd.prog.underlying 134).isSome = true := by kernel_rfl
@[simp] theorem cellsOf_137 : Tryd.prog.cellsOf 137 = 1 := by kernel_rfl
@[simp] theorem bytesOf_137 : Tryd.prog.bytesOf 137 = 24 := by kernel_rfl
@[simp] theorem slel_137 : slel Tryd.prog 137 = some 4 := by kernel_rfl
@[simp] theorem isAggB_137 : isAggB Tryd.prog 137 = false := by kernel_rfl
@[simp] theorem tOk_137 : tOk Tryd.prog 137 = true := by kernel_rfl
@[simp] theorem arrOf_137 : arrOf Tryd.prog 137 = none := by kernel_rfl
@[simp] theorem strB_137 : strB Tryd.prog 137 = false := by kernel_rfl
@[simp] theorem bolB_137 : bolB Tryd.prog 137 = false := by kernel_rfl
@[simp] theorem mapB_137 : mapB Tryd.prog 137 = false := by kernel_rfl
@[simp] theorem intK_137 : intK Tryd.prog 137 = none := by kernel_rfl
@[simp] theorem zrow_137 : zrow Tryd.prog 137 = some [AV.sl false 1 []] := by kernel_rfl
@[simp] theorem bldOk_137 : bldOk Tryd.prog 137 = false := by kernel_rfl
@[simp] theorem tcs_137 : tcs Tryd.prog 137 = [137] := by kernel_rfl
@[simp] theorem srcT_137 : srcT Tryd.prog 137 = true := by kernel_rfl
@[simp] theorem zok_137 : zok Tryd.prog 137 = true := by kernel_rfl
@[simp] theorem flds_137 : flds Tryd.prog 137 = [] := by kernel_rfl
@[simp] theorem zeros_137 : zeros Tryd.prog 137 = some [Value.slice none 0 0] := by kernel_rfl
@[simp] theorem isinfo_137 : (Tryd.prog.info? 137).isSome = true := by kernel_rfl
@[simp] theorem isund_137 : (Tryd.prog.underlying 137).isSome = true := by kernel_rfl
@[simp] theorem cellsOf_138 : Tryd.prog.cellsOf 138 = 1 := by kernel_rfl
@[simp] theorem bytesOf_138 : Tryd.prog.bytesOf 138 = 0 := by kernel_rfl
@[simp] theorem slel_138 : slel Tryd.prog 138 = none := by kernel_rfl
@[simp] theorem isAggB_138 : isAggB Tryd.prog 138 = false := by kernel_rfl
@[simp] theorem tOk_138 : tOk Tryd.prog 138 = true := by kernel_rfl
@[simp] theorem arrOf_138 : arrOf Tryd.prog 138 = none := by kernel_rfl
@[simp] theorem strB_138 : strB Tryd.prog 138 = false := by kernel_rfl
@[simp] theorem bolB_138 : bolB Tryd.prog 138 = false := by kernel_rfl
@[simp] theorem mapB_138 : mapB Tryd.prog 138 = false := by kernel_rfl
@[simp] theorem intK_138 : intK Tryd.prog 138 = none := by kernel_rfl
@[simp] theorem zrow_138 : zrow Tryd.prog 138 = none := by kernel_rfl
@[simp] theorem bldOk_138 : bldOk Tryd.prog 138 = false := by kernel_rfl
@[simp] theorem tcs_138 : tcs Tryd.prog 138 = [138] := by kernel_rfl
@[simp] theorem srcT_138 : srcT Tryd.prog 138 = false := by kernel_rfl
@[simp] theorem zok_138 : zok Tryd.prog 138 = true := by kernel_rfl
@[simp] theorem flds_138 : flds Tryd.prog 138 = [] := by kernel_rfl
@[simp] theorem zeros_138 : zeros Tryd.prog 138 = some [Value.tuple { toList := [Value.slice none 0 0, Value.slice none 0 0] }] := by kernel_rfl
@[simp] theorem isinfo_138 : (Tryd.prog.info? 138).isSome = true := by kernel_rfl
@[simp] theorem isund_138 : (Tryd.prog.underlying 138).isSome = true := by kernel_rfl
@[simp] theorem cellsOf_141 : Tryd.prog.cellsOf 141 = 28 := by kernel_rfl
@[simp] theorem bytesOf_141 : Tryd.prog.bytesOf 141 = 272 := by kernel_rfl
@[simp] theorem slel_141 : slel Tryd.prog 141 = none := by kernel_rfl
@[simp] theorem isAggB_141 : isAggB Tryd.prog 141 = true := by kernel_rfl
@[simp] theorem tOk_141 : tOk Tryd.prog 141 = true := by kernel_rfl
@[simp] theorem arrOf_141 : arrOf Tryd.prog 141 = none := by kernel_rfl
@[simp] theorem strB_141 : strB Tryd.prog 141 = false := by kernel_rfl
@[simp] theorem bolB_141 : bolB Tryd.prog 141 = false := by kernel_rfl
@[simp] theorem mapB_141 : mapB Tryd.prog 141 = false := by kernel_rfl
@[simp] theorem intK_141 : intK Tryd.prog 141 = none := by kernel_rfl
@[simp] theorem zrow_141 : zrow Tryd.prog 141 = some [AV.sc (Value.int IntKind.i64 0), AV.sc (Value.int IntKind.u32 0), AV.sc (Value.int IntKind.u32 0), AV.sc (Value.int IntKind.u32 0), AV.sc (Value.int IntKind.u32 0), AV.sc (Value.int IntKind.u32 0), AV.sc (Value.int IntKind.u32 0), AV.sc (Value.int IntKind.u32 0), AV.sc (Value.int IntKind.u32 0), AV.sc (Value.int IntKind.u32 0), AV.sc (Value.int IntKind.u32 0), AV.sc (Value.int IntKind.u32 0), AV.sc (Value.int IntKind.u32 0), AV.sc (Value.int IntKind.u32 0), AV.sc (Value.int IntKind.u32 0), AV.sc (Value.int IntKind.u32 0), AV.sc (Value.int IntKind.u32 0), AV.sl false 1 [], AV.sc (Value.int IntKind.i64 0), AV.sc (Value.string { data := { toList := [] } }), AV.sc (Value.int IntKind.i64 0), AV.sc (Value.int IntKind.i64 0), AV.sl false 1 [], AV.sl false 4 [], AV.sl false 1 [], AV.sl false 1 [], AV.sc (Value.string { data := { toList := [] } }), AV.sl false 1 []] := by kernel_rfl
@[simp] theorem bldOk_141 : bldOk Tryd.prog 141 = true := by kernel_rfl
@[simp] theorem tcs_141 : tcs Tryd.prog 141 = [3, 32, 32, 32, 32, 32, 32, 32, 32, 32, 32, 32, 32, 32, 32, 32, 32, 55, 3, 9, 3, 3, 109, 117, 137, 55, 9, 122] := by kernel_rfl
@[simp] theorem srcT_141 : srcT Tryd.prog 141 = false := by kernel_rfl
@[simp] theorem zok_141 : zok Tryd.prog 141 = true := by kernel_rfl
@[simp] theorem flds_141 : flds Tryd.prog 141 = [(0, 22, 97), (22, 1, 109), (23, 1, 117), (24, 1, 137), (25, 1, 55), (26, 1, 9), (27, 1, 122)] := by kernel_rfl
@[simp] theorem zeros_141 : zeros Tryd.prog 141 = some [Value.int IntKind.i64 0, Value.int IntKind.u32 0, Value.int IntKind.u32 0, Value.int IntKind.u32 0, Value.int IntKind.u32 0, Value.int IntKind.u32 0, Value.int IntKind.u32 0, Value.int IntKind.u32 0, Value.int IntKind.u32 0, Value.int IntKind.u32 0, Value.int IntKind.u32 0, Value.int IntKind.u32 0, Value.int IntKind.u32 0, Value.int IntKind.u32 0, Value.int IntKind.u32 0, Value.int IntKind.u32 0, Value.int IntKind.u32 0, Value.slice none 0 0, Value.int IntKind.i64 0, Value.string { data := { toList := [] } }, Value.int IntKind.i64 0, Value.int IntKind.i64 0, Value.slice none 0 0, Value.slice none 0 0, Value.slice none 0 0, Value.slice none 0 0, Value.string { data := { toList := [] } }, Value.slice none 0 0] := by kernel_rfl
@[simp] theorem isinfo_141 : (Tryd.prog.info? 141).isSome = true := by kernel_rfl
@[simp] theorem isund_141 : (Tryd.prog.underlying 141).isSome = true := by kernel_rfl
@[simp] theorem cellsOf_142 : Tryd.prog.cellsOf 142 = 4 := by kernel_rfl
@[simp] theorem bytesOf_142 : Tryd.prog.bytesOf 142 = 32 := by kernel_rfl
@[simp] theorem slel_142 : slel Tryd.prog 142 = none := by kernel_rfl
@[simp] theorem isAggB_142 : isAggB Tryd.prog 142 = true := by kernel_rfl
@[simp] theorem tOk_142 : tOk Tryd.prog 142 = true := by kernel_rfl
@[simp] theorem arrOf_142 : arrOf Tryd.prog 142 = some (4, 3) := by kernel_rfl
@[simp] theorem strB_142 : strB Tryd.prog 142 = false := by kernel_rfl
@[simp] theorem bolB_142 : bolB Tryd.prog 142 = false := by kernel_rfl
@[simp] theorem mapB_142 : mapB Tryd.prog 142 = false := by kernel_rfl
@[simp] theorem intK_142 : intK Tryd.prog 142 = none := by kernel_rfl
@[simp] theorem zrow_142 : zrow Tryd.prog 142 = some [AV.sc (Value.int IntKind.i64 0), AV.sc (Value.int IntKind.i64 0), AV.sc (Value.int IntKind.i64 0), AV.sc (Value.int IntKind.i64 0)] := by kernel_rfl
@[simp] theorem bldOk_142 : bldOk Tryd.prog 142 = true := by kernel_rfl
@[simp] theorem tcs_142 : tcs Tryd.prog 142 = [3, 3, 3, 3] := by kernel_rfl
@[simp] theorem srcT_142 : srcT Tryd.prog 142 = false := by kernel_rfl
@[simp] theorem zok_142 : zok Tryd.prog 142 = true := by kernel_rfl
@[simp] theorem flds_142 : flds Tryd.prog 142 = [] := by kernel_rfl
@[simp] theorem zeros_142 : zeros Tryd.prog 142 = some [Value.int IntKind.i64 0, Value.int IntKind.i64 0, Value.int IntKind.i64 0, Value.int IntKind.i64 0] := by kernel_rfl
@[simp] theorem isinfo_142 : (Tryd.prog.info? 142).isSome = true := by kernel_rfl
@[simp] theorem isund_142 : (Tryd.prog.underlying 142).isSome = true := by kernel_rfl
@[simp] theorem cellsOf_145 : Tryd.prog.cellsOf 145 = 1 := by kernel_rfl
@[simp] theorem bytesOf_145 : Tryd.prog.bytesOf 145 = 8 := by kernel_rfl
@[simp] theorem slel_145 : slel Tryd.prog 145 = none := by kernel_rfl
@[simp] theorem isAggB_145 : isAggB Tryd.prog 145 = false := by kernel_rfl
@[simp] theorem tOk_145 : tOk Tryd.prog 145 = true := by kernel_rfl
@[simp] theorem arrOf_145 : arrOf Tryd.prog 145 = none := by kernel_rfl
@[simp] theorem strB_145 : strB Tryd.prog 145 = false := by kernel_rfl
@[simp] theorem bolB_145 : bolB Tryd.prog 145 = false := by kernel_rfl
@[simp] theorem mapB_145 : mapB Tryd.prog 145 = false := by kernel_rfl
@[simp] theorem intK_145 : intK Tryd.prog 145 = none := by kernel_rfl
@[simp] theorem zrow_145 : zrow Tryd.prog 145 = some [AV.sc (Value.pointer none)] := by kernel_rfl
@[simp] theorem bldOk_145 : bldOk Tryd.prog 145 = false := by kernel_rfl
@[simp] theorem tcs_145 : tcs Tryd.prog 145 = [145] := by kernel_rfl
@[simp] theorem srcT_145 : srcT Tryd.prog 145 = false := by kernel_rfl
@[simp] theorem zok_145 : zok Tryd.prog 145 = true := by kernel_rfl
@[simp] theorem flds_145 : flds Tryd.prog 145 = [] := by kernel_rfl
@[simp] theorem zeros_145 : zeros Tryd.prog 145 = some [Value.pointer none] := by kernel_rfl
@[simp] theorem isinfo_145 : (Tryd.prog.info? 145).isSome = true := by kernel_rfl
@[simp] theorem isund_145 : (Tryd.prog.underlying 145).isSome = true := by kernel_rfl
@[simp] theorem cellsOf_148 : Tryd.prog.cellsOf 148 = 4 := by kernel_rfl
@[simp] theorem bytesOf_148 : Tryd.prog.bytesOf 148 = 32 := by kernel_rfl
@[simp] theorem slel_148 : slel Tryd.prog 148 = none := by kernel_rfl
@[simp] theorem isAggB_148 : isAggB Tryd.prog 148 = true := by kernel_rfl
@[simp] theorem tOk_148 : tOk Tryd.prog 148 = true := by kernel_rfl
@[simp] theorem arrOf_148 : arrOf Tryd.prog 148 = none := by kernel_rfl
@[simp] theorem strB_148 : strB Tryd.prog 148 = false := by kernel_rfl
@[simp] theorem bolB_148 : bolB Tryd.prog 148 = false := by kernel_rfl
@[simp] theorem mapB_148 : mapB Tryd.prog 148 = false := by kernel_rfl
@[simp] theorem intK_148 : intK Tryd.prog 148 = none := by kernel_rfl
@[simp] theorem zrow_148 : zrow Tryd.prog 148 = some [AV.sc (Value.string { data := { toList := [] } }), AV.sc (Value.bool false), AV.sc (Value.bool false), AV.sc (Value.int IntKind.i64 0)] := by kernel_rfl
@[simp] theorem bldOk_148 : bldOk Tryd.prog 148 = true := by kernel_rfl
@[simp] theorem tcs_148 : tcs Tryd.prog 148 = [9, 4, 4, 3] := by kernel_rfl
@[simp] theorem srcT_148 : srcT Tryd.prog 148 = false := by kernel_rfl
@[simp] theorem zok_148 : zok Tryd.prog 148 = true := by kernel_rfl
@[simp] theorem flds_148 : flds Tryd.prog 148 = [(0, 1, 9), (1, 1, 4), (2, 1, 4), (3, 1, 3)] := by kernel_rfl
@[simp] theorem zeros_148 : zeros Tryd.prog 148 = some [Value.string { data := { toList := [] } }, Value.bool false, Value.bool false, Value.int IntKind.i64 0] := by kernel_rfl
@[simp] theorem isinfo_148 : (Tryd.prog.info? 148).isSome = true := by kernel_rfl
@[simp] theorem isund_148 : (Tryd.prog.underlying 148).isSome = true := by kernel_rfl
@[simp] theorem okFn_3 : okFn Tryd.prog 3 = true := by kernel_rfl
@[simp] theorem ptys_3 : ptys Tryd.prog 3 = [24, 3] := by kernel_rfl
@[simp] theorem rtys_3 : rtys Tryd.prog 3 = [4] := by kernel_rfl
@[simp] theorem flatF_3 : flatF Tryd.prog 3 = true := by kernel_rfl
@[simp] theorem bodyOk_3 : bodyOk Tryd.f3 = true := by kernel_rfl
@[simp] theorem okFn_4 : okFn Tryd.prog 4 = true := by kernel_rfl
@[simp] theorem ptys_4 : ptys Tryd.prog 4 = [34, 40, 40] := by kernel_rfl
@[simp] theorem rtys_4 : rtys Tryd.prog 4 = [4] := by kernel_rfl
@[simp] theorem flatF_4 : flatF Tryd.prog 4 = true := by kernel_rfl
@[simp] theorem bodyOk_4 : bodyOk Tryd.f4 = true := by kernel_rfl
@[simp] theorem okFn_5 : okFn Tryd.prog 5 = true := by kernel_rfl
@[simp] theorem ptys_5 : ptys Tryd.prog 5 = [] := by kernel_rfl
@[simp] theorem rtys_5 : rtys Tryd.prog 5 = [4] := by kernel_rfl
@[simp] theorem flatF_5 : flatF Tryd.prog 5 = true := by kernel_rfl
@[simp] theorem bodyOk_5 : bodyOk Tryd.f5 = true := by kernel_rfl
@[simp] theorem okFn_8 : okFn Tryd.prog 8 = true := by kernel_rfl
@[simp] theorem ptys_8 : ptys Tryd.prog 8 = [24, 3] := by kernel_rfl
@[simp] theorem rtys_8 : rtys Tryd.prog 8 = [24, 28] := by kernel_rfl
@[simp] theorem flatF_8 : flatF Tryd.prog 8 = false := by kernel_rfl
@[simp] theorem bodyOk_8 : bodyOk Tryd.f8 = true := by kernel_rfl
@[simp] theorem okFn_11 : okFn Tryd.prog 11 = true := by kernel_rfl
@[simp] theorem ptys_11 : ptys Tryd.prog 11 = [42, 40] := by kernel_rfl
@[simp] theorem rtys_11 : rtys Tryd.prog 11 = [42, 48, 28] := by kernel_rfl
@[simp] theorem flatF_11 : flatF Tryd.prog 11 = false := by kernel_rfl
@[simp] theorem bodyOk_11 : bodyOk Tryd.f11 = true := by kernel_rfl
@[simp] theorem okFn_12 : okFn Tryd.prog 12 = true := by kernel_rfl
@[simp] theorem ptys_12 : ptys Tryd.prog 12 = [40, 48, 40, 48] := by kernel_rfl
@[simp] theorem rtys_12 : rtys Tryd.prog 12 = [4] := by kernel_rfl
@[simp] theorem flatF_12 : flatF Tryd.prog 12 = true := by kernel_rfl
@[simp] theorem bodyOk_12 : bodyOk Tryd.f12 = true := by kernel_rfl
@[simp] theorem okFn_13 : okFn Tryd.prog 13 = true := by kernel_rfl
@[simp] theorem ptys_13 : ptys Tryd.prog 13 = [55] := by kernel_rfl
@[simp] theorem rtys_13 : rtys Tryd.prog 13 = [9, 28] := by kernel_rfl
@[simp] theorem flatF_13 : flatF Tryd.prog 13 = true := by kernel_rfl
@[simp] theorem bodyOk_13 : bodyOk Tryd.f13 = true := by kernel_rfl
@[simp] theorem okFn_14 : okFn Tryd.prog 14 = true := by kernel_rfl
@[simp] theorem ptys_14 : ptys Tryd.prog 14 = [9, 3, 32] := by kernel_rfl
@[simp] theorem rtys_14 : rtys Tryd.prog 14 = [9, 28] := by kernel_rfl
@[simp] theorem flatF_14 : flatF Tryd.prog 14 = true := by kernel_rfl
@[simp] theorem bodyOk_14 : bodyOk Tryd.f14 = true := by kernel_rfl
@[simp] theorem okFn_15 : okFn Tryd.prog 15 = true := by kernel_rfl
@[simp] theorem ptys_15 : ptys Tryd.prog 15 = [9, 9] := by kernel_rfl
@[simp] theorem rtys_15 : rtys Tryd.prog 15 = [4] := by kernel_rfl
@[simp] theorem flatF_15 : flatF Tryd.prog 15 = true := by kernel_rfl
@[simp] theorem bodyOk_15 : bodyOk Tryd.f15 = true := by kernel_rfl
@[simp] theorem okFn_18 : okFn Tryd.prog 18 = true := by kernel_rfl
@[simp] theorem ptys_18 : ptys Tryd.prog 18 = [42, 34] := by kernel_rfl
@[simp] theorem rtys_18 : rtys Tryd.prog 18 = [42, 46, 28] := by kernel_rfl
@[simp] theorem flatF_18 : flatF Tryd.prog 18 = false := by kernel_rfl
@[simp] theorem bodyOk_18 : bodyOk Tryd.f18 = true := by kernel_rfl
@[simp] theorem okFn_19 : okFn Tryd.prog 19 = true := by kernel_rfl
@[simp] theorem ptys_19 : ptys Tryd.prog 19 = [40] := by kernel_rfl
@[simp] theorem rtys_19 : rtys Tryd.prog 19 = [34] := by kernel_rfl
@[simp] theorem flatF_19 : flatF Tryd.prog 19 = true := by kernel_rfl
@[simp] theorem bodyOk_19 : bodyOk Tryd.f19 = true := by kernel_rfl
@[simp] theorem okFn_20 : okFn Tryd.prog 20 = true := by kernel_rfl
@[simp] theorem ptys_20 : ptys Tryd.prog 20 = [34, 3] := by kernel_rfl
@[simp] theorem rtys_20 : rtys Tryd.prog 20 = [34, 28] := by kernel_rfl
@[simp] theorem flatF_20 : flatF Tryd.prog 20 = true := by kernel_rfl
@[simp] theorem bodyOk_20 : bodyOk Tryd.f20 = true := by kernel_rfl
@[simp] theorem okFn_21 : okFn Tryd.prog 21 = true := by kernel_rfl
@[simp] theorem ptys_21 : ptys Tryd.prog 21 = [40, 48] := by kernel_rfl
@[simp] theorem rtys_21 : rtys Tryd.prog 21 = [4] := by kernel_rfl
@[simp] theorem flatF_21 : flatF Tryd.prog 21 = true := by kernel_rfl
@[simp] theorem bodyOk_21 : bodyOk Tryd.f21 = true := by kernel_rfl
@[simp] theorem okFn_22 : okFn Tryd.prog 22 = true := by kernel_rfl
@[simp] theorem ptys_22 : ptys Tryd.prog 22 = [3] := by kernel_rfl
@[simp] theorem rtys_22 : rtys Tryd.prog 22 = [55, 28] := by kernel_rfl
@[simp] theorem flatF_22 : flatF Tryd.prog 22 = false := by kernel_rfl
@[simp] theorem bodyOk_22 : bodyOk Tryd.f22 = true := by kernel_rfl
@[simp] theorem okFn_23 : okFn Tryd.prog 23 = true := by kernel_rfl
@[simp] theorem ptys_23 : ptys Tryd.prog 23 = [70] := by kernel_rfl
@[simp] theorem rtys_23 : rtys Tryd.prog 23 = [9, 28] := by kernel_rfl
@[simp] theorem flatF_23 : flatF Tryd.prog 23 = true := by kernel_rfl
@[simp] theorem bodyOk_23 : bodyOk Tryd.f23 = true := by kernel_rfl
@[simp] theorem okFn_24 : okFn Tryd.prog 24 = true := by kernel_rfl
@[simp] theorem ptys_24 : ptys Tryd.prog 24 = [9] := by kernel_rfl
@[simp] theorem rtys_24 : rtys Tryd.prog 24 = [70, 28] := by kernel_rfl
@[simp] theorem flatF_24 : flatF Tryd.prog 24 = false := by kernel_rfl
@[simp] theorem bodyOk_24 : bodyOk Tryd.f24 = true := by kernel_rfl
@[simp] theorem okFn_25 : okFn Tryd.prog 25 = true := by kernel_rfl
@[simp] theorem ptys_25 : ptys Tryd.prog 25 = [9] := by kernel_rfl
@[simp] theorem rtys_25 : rtys Tryd.prog 25 = [70, 28] := by kernel_rfl
@[simp] theorem flatF_25 : flatF Tryd.prog 25 = false := by kernel_rfl
@[simp] theorem bodyOk_25 : bodyOk Tryd.f25 = true := by kernel_rfl
@[simp] theorem okFn_26 : okFn Tryd.prog 26 = true := by kernel_rfl
@[simp] theorem ptys_26 : ptys Tryd.prog 26 = [70, 9, 3] := by kernel_rfl
@[simp] theorem rtys_26 : rtys Tryd.prog 26 = [74] := by kernel_rfl
@[simp] theorem flatF_26 : flatF Tryd.prog 26 = true := by kernel_rfl
@[simp] theorem bodyOk_26 : bodyOk Tryd.f26 = true := by kernel_rfl
@[simp] theorem okFn_28 : okFn Tryd.prog 28 = true := by kernel_rfl
@[simp] theorem ptys_28 : ptys Tryd.prog 28 = [43] := by kernel_rfl
@[simp] theorem rtys_28 : rtys Tryd.prog 28 = [34] := by kernel_rfl
@[simp] theorem flatF_28 : flatF Tryd.prog 28 = true := by kernel_rfl
@[simp] theorem bodyOk_28 : bodyOk Tryd.f28 = true := by kernel_rfl
@[simp] theorem okFn_30 : okFn Tryd.prog 30 = true := by kernel_rfl
@[simp] theorem ptys_30 : ptys Tryd.prog 30 = [3] := by kernel_rfl
@[simp] theorem rtys_30 : rtys Tryd.prog 30 = [4] := by kernel_rfl
@[simp] theorem flatF_30 : flatF Tryd.prog 30 = true := by kernel_rfl
@[simp] theorem bodyOk_30 : bodyOk Tryd.f30 = true := by kernel_rfl
@[simp] theorem okFn_31 : okFn Tryd.prog 31 = true := by kernel_rfl
@[simp] theorem ptys_31 : ptys Tryd.prog 31 = [34, 3, 3, 34] := by kernel_rfl
@[simp] theorem rtys_31 : rtys Tryd.prog 31 = [46, 28] := by kernel_rfl
@[simp] theorem flatF_31 : flatF Tryd.prog 31 = false := by kernel_rfl
@[simp] theorem bodyOk_31 : bodyOk Tryd.f31 = true := by kernel_rfl
@[simp] theorem okFn_32 : okFn Tryd.prog 32 = true := by kernel_rfl
@[simp] theorem ptys_32 : ptys Tryd.prog 32 = [55] := by kernel_rfl
@[simp] theorem rtys_32 : rtys Tryd.prog 32 = [9] := by kernel_rfl
@[simp] theorem flatF_32 : flatF Tryd.prog 32 = true := by kernel_rfl
@[simp] theorem bodyOk_32 : bodyOk Tryd.f32 = true := by kernel_rfl
@[simp] theorem okFn_33 : okFn Tryd.prog 33 = true := by kernel_rfl
@[simp] theorem ptys_33 : ptys Tryd.prog 33 = [34, 34] := by kernel_rfl
@[simp] theorem rtys_33 : rtys Tryd.prog 33 = [34] := by kernel_rfl
@[simp] theorem flatF_33 : flatF Tryd.prog 33 = true := by kernel_rfl
@[simp] theorem bodyOk_33 : bodyOk Tryd.f33 = true := by kernel_rfl
@[simp] theorem okFn_34 : okFn Tryd.prog 34 = true := by kernel_rfl
@[simp] theorem ptys_34 : ptys Tryd.prog 34 = [9] := by kernel_rfl
@[simp] theorem rtys_34 : rtys Tryd.prog 34 = [34] := by kernel_rfl
@[simp] theorem flatF_34 : flatF Tryd.prog 34 = true := by kernel_rfl
@[simp] theorem bodyOk_34 : bodyOk Tryd.f34 = true := by kernel_rfl
@[simp] theorem okFn_35 : okFn Tryd.prog 35 = true := by kernel_rfl
@[simp] theorem ptys_35 : ptys Tryd.prog 35 = [34, 3] := by kernel_rfl
@[simp] theorem rtys_35 : rtys Tryd.prog 35 = [43] := by kernel_rfl
@[simp] theorem flatF_35 : flatF Tryd.prog 35 = false := by kernel_rfl
@[simp] theorem bodyOk_35 : bodyOk Tryd.f35 = true := by kernel_rfl
@[simp] theorem okFn_36 : okFn Tryd.prog 36 = true := by kernel_rfl
@[simp] theorem ptys_36 : ptys Tryd.prog 36 = [34, 34, 46] := by kernel_rfl
@[simp] theorem rtys_36 : rtys Tryd.prog 36 = [4] := by kernel_rfl
@[simp] theorem flatF_36 : flatF Tryd.prog 36 = true := by kernel_rfl
@[simp] theorem bodyOk_36 : bodyOk Tryd.f36 = true := by kernel_rfl
@[simp] theorem okFn_37 : okFn Tryd.prog 37 = true := by kernel_rfl
@[simp] theorem ptys_37 : ptys Tryd.prog 37 = [117] := by kernel_rfl
@[simp] theorem rtys_37 : rtys Tryd.prog 37 = [55, 28] := by kernel_rfl
@[simp] theorem flatF_37 : flatF Tryd.prog 37 = false := by kernel_rfl
@[simp] theorem bodyOk_37 : bodyOk Tryd.f37 = true := by kernel_rfl
@[simp] theorem okFn_38 : okFn Tryd.prog 38 = true := by kernel_rfl
@[simp] theorem ptys_38 : ptys Tryd.prog 38 = [70] := by kernel_rfl
@[simp] theorem rtys_38 : rtys Tryd.prog 38 = [4] := by kernel_rfl
@[simp] theorem flatF_38 : flatF Tryd.prog 38 = true := by kernel_rfl
@[simp] theorem bodyOk_38 : bodyOk Tryd.f38 = true := by kernel_rfl
@[simp] theorem okFn_39 : okFn Tryd.prog 39 = true := by kernel_rfl
@[simp] theorem ptys_39 : ptys Tryd.prog 39 = [91] := by kernel_rfl
@[simp] theorem rtys_39 : rtys Tryd.prog 39 = [55] := by kernel_rfl
@[simp] theorem flatF_39 : flatF Tryd.prog 39 = false := by kernel_rfl
@[simp] theorem bodyOk_39 : bodyOk Tryd.f39 = true := by kernel_rfl
@[simp] theorem okFn_40 : okFn Tryd.prog 40 = true := by kernel_rfl
@[simp] theorem ptys_40 : ptys Tryd.prog 40 = [9] := by kernel_rfl
@[simp] theorem rtys_40 : rtys Tryd.prog 40 = [91] := by kernel_rfl
@[simp] theorem flatF_40 : flatF Tryd.prog 40 = false := by kernel_rfl
@[simp] theorem bodyOk_40 : bodyOk Tryd.f40 = true := by kernel_rfl
@[simp] theorem okFn_41 : okFn Tryd.prog 41 = true := by kernel_rfl
@[simp] theorem ptys_41 : ptys Tryd.prog 41 = [9, 3] := by kernel_rfl
@[simp] theorem rtys_41 : rtys Tryd.prog 41 = [32] := by kernel_rfl
@[simp] theorem flatF_41 : flatF Tryd.prog 41 = true := by kernel_rfl
@[simp] theorem bodyOk_41 : bodyOk Tryd.f41 = true := by kernel_rfl
@[simp] theorem okFn_42 : okFn Tryd.prog 42 = true := by kernel_rfl
@[simp] theorem ptys_42 : ptys Tryd.prog 42 = [70, 9, 97, 3] := by kernel_rfl
@[simp] theorem rtys_42 : rtys Tryd.prog 42 = [97] := by kernel_rfl
@[simp] theorem flatF_42 : flatF Tryd.prog 42 = false := by kernel_rfl
@[simp] theorem bodyOk_42 : bodyOk Tryd.f42 = true := by kernel_rfl
@[simp] theorem okFn_43 : okFn Tryd.prog 43 = true := by kernel_rfl
@[simp] theorem ptys_43 : ptys Tryd.prog 43 = [70] := by kernel_rfl
@[simp] theorem rtys_43 : rtys Tryd.prog 43 = [97] := by kernel_rfl
@[simp] theorem flatF_43 : flatF Tryd.prog 43 = false := by kernel_rfl
@[simp] theorem bodyOk_43 : bodyOk Tryd.f43 = true := by kernel_rfl
@[simp] theorem okFn_46 : okFn Tryd.prog 46 = true := by kernel_rfl
@[simp] theorem ptys_46 : ptys Tryd.prog 46 = [3] := by kernel_rfl
@[simp] theorem rtys_46 : rtys Tryd.prog 46 = [3] := by kernel_rfl
@[simp] theorem flatF_46 : flatF Tryd.prog 46 = true := by kernel_rfl
@[simp] theorem bodyOk_46 : bodyOk Tryd.f46 = true := by kernel_rfl
@[simp] theorem okFn_47 : okFn Tryd.prog 47 = true := by kernel_rfl
@[simp] theorem ptys_47 : ptys Tryd.prog 47 = [43, 3] := by kernel_rfl
@[simp] theorem rtys_47 : rtys Tryd.prog 47 = [43, 28] := by kernel_rfl
@[simp] theorem flatF_47 : flatF Tryd.prog 47 = false := by kernel_rfl
@[simp] theorem bodyOk_47 : bodyOk Tryd.f47 = true := by kernel_rfl
@[simp] theorem okFn_48 : okFn Tryd.prog 48 = true := by kernel_rfl
@[simp] theorem ptys_48 : ptys Tryd.prog 48 = [34, 34] := by kernel_rfl
@[simp] theorem rtys_48 : rtys Tryd.prog 48 = [44] := by kernel_rfl
@[simp] theorem flatF_48 : flatF Tryd.prog 48 = false := by kernel_rfl
@[simp] theorem bodyOk_48 : bodyOk Tryd.f48 = true := by kernel_rfl
@[simp] theorem okFn_49 : okFn Tryd.prog 49 = true := by kernel_rfl
@[simp] theorem ptys_49 : ptys Tryd.prog 49 = [34, 3] := by kernel_rfl
@[simp] theorem rtys_49 : rtys Tryd.prog 49 = [34] := by kernel_rfl
@[simp] theorem flatF_49 : flatF Tryd.prog 49 = true := by kernel_rfl
@[simp] theorem bodyOk_49 : bodyOk Tryd.f49 = true := by kernel_rfl
@[simp] theorem okFn_50 : okFn Tryd.prog 50 = true := by kernel_rfl
@[simp] theorem ptys_50 : ptys Tryd.prog 50 = [102] := by kernel_rfl
@[simp] theorem rtys_50 : rtys Tryd.prog 50 = [34] := by kernel_rfl
@[simp] theorem flatF_50 : flatF Tryd.prog 50 = true := by kernel_rfl
@[simp] theorem bodyOk_50 : bodyOk Tryd.f50 = true := by kernel_rfl
@[simp] theorem okFn_51 : okFn Tryd.prog 51 = true := by kernel_rfl
@[simp] theorem ptys_51 : ptys Tryd.prog 51 = [102, 33] := by kernel_rfl
@[simp] theorem rtys_51 : rtys Tryd.prog 51 = [102] := by kernel_rfl
@[simp] theorem flatF_51 : flatF Tryd.prog 51 = true := by kernel_rfl
@[simp] theorem bodyOk_51 : bodyOk Tryd.f51 = true := by kernel_rfl
@[simp] theorem okFn_52 : okFn Tryd.prog 52 = true := by kernel_rfl
@[simp] theorem ptys_52 : ptys Tryd.prog 52 = [9, 3] := by kernel_rfl
@[simp] theorem rtys_52 : rtys Tryd.prog 52 = [33] := by kernel_rfl
@[simp] theorem flatF_52 : flatF Tryd.prog 52 = true := by kernel_rfl
@[simp] theorem bodyOk_52 : bodyOk Tryd.f52 = true := by kernel_rfl
@[simp] theorem okFn_53 : okFn Tryd.prog 53 = true := by kernel_rfl
@[simp] theorem ptys_53 : ptys Tryd.prog 53 = [34] := by kernel_rfl
@[simp] theorem rtys_53 : rtys Tryd.prog 53 = [34] := by kernel_rfl
@[simp] theorem flatF_53 : flatF Tryd.prog 53 = true := by kernel_rfl
@[simp] theorem bodyOk_53 : bodyOk Tryd.f53 = true := by kernel_rfl
@[simp] theorem okFn_54 : okFn Tryd.prog 54 = true := by kernel_rfl
@[simp] theorem ptys_54 : ptys Tryd.prog 54 = [34, 44] := by kernel_rfl
@[simp] theorem rtys_54 : rtys Tryd.prog 54 = [34, 4] := by kernel_rfl
@[simp] theorem flatF_54 : flatF Tryd.prog 54 = true := by kernel_rfl
@[simp] theorem bodyOk_54 : bodyOk Tryd.f54 = true := by kernel_rfl
@[simp] theorem okFn_55 : okFn Tryd.prog 55 = true := by kernel_rfl
@[simp] theorem ptys_55 : ptys Tryd.prog 55 = [34, 3, 3, 34, 43] := by kernel_rfl
@[simp] theorem rtys_55 : rtys Tryd.prog 55 = [4] := by kernel_rfl
@[simp] theorem flatF_55 : flatF Tryd.prog 55 = true := by kernel_rfl
@[simp] theorem bodyOk_55 : bodyOk Tryd.f55 = true := by kernel_rfl
@[simp] theorem okFn_56 : okFn Tryd.prog 56 = true := by kernel_rfl
@[simp] theorem ptys_56 : ptys Tryd.prog 56 = [87] := by kernel_rfl
@[simp] theorem rtys_56 : rtys Tryd.prog 56 = [32, 28] := by kernel_rfl
@[simp] theorem flatF_56 : flatF Tryd.prog 56 = true := by kernel_rfl
@[simp] theorem bodyOk_56 : bodyOk Tryd.f56 = true := by kernel_rfl
@[simp] theorem okFn_57 : okFn Tryd.prog 57 = true := by kernel_rfl
@[simp] theorem ptys_57 : ptys Tryd.prog 57 = [55, 91] := by kernel_rfl
@[simp] theorem rtys_57 : rtys Tryd.prog 57 = [55] := by kernel_rfl
@[simp] theorem flatF_57 : flatF Tryd.prog 57 = false := by kernel_rfl
@[simp] theorem bodyOk_57 : bodyOk Tryd.f57 = true := by kernel_rfl
@[simp] theorem okFn_58 : okFn Tryd.prog 58 = true := by kernel_rfl
@[simp] theorem ptys_58 : ptys Tryd.prog 58 = [121] := by kernel_rfl
@[simp] theorem rtys_58 : rtys Tryd.prog 58 = [] := by kernel_rfl
@[simp] theorem flatF_58 : flatF Tryd.prog 58 = true := by kernel_rfl
@[simp] theorem bodyOk_58 : bodyOk Tryd.f58 = true := by kernel_rfl
@[simp] theorem okFn_59 : okFn Tryd.prog 59 = true := by kernel_rfl
@[simp] theorem ptys_59 : ptys Tryd.prog 59 = [70, 9, 97, 3] := by kernel_rfl
@[simp] theorem rtys_59 : rtys Tryd.prog 59 = [97, 122] := by kernel_rfl
@[simp] theorem flatF_59 : flatF Tryd.prog 59 = false := by kernel_rfl
@[simp] theorem bodyOk_59 : bodyOk Tryd.f59 = true := by kernel_rfl
@[simp] theorem okFn_61 : okFn Tryd.prog 61 = true := by kernel_rfl
@[simp] theorem ptys_61 : ptys Tryd.prog 61 = [43, 3] := by kernel_rfl
@[simp] theorem rtys_61 : rtys Tryd.prog 61 = [43] := by kernel_rfl
@[simp] theorem flatF_61 : flatF Tryd.prog 61 = false := by kernel_rfl
@[simp] theorem bodyOk_61 : bodyOk Tryd.f61 = true := by kernel_rfl
@[simp] theorem okFn_62 : okFn Tryd.prog 62 = true := by kernel_rfl
@[simp] theorem ptys_62 : ptys Tryd.prog 62 = [] := by kernel_rfl
@[simp] theorem rtys_62 : rtys Tryd.prog 62 = [108] := by kernel_rfl
@[simp] theorem flatF_62 : flatF Tryd.prog 62 = false := by kernel_rfl
@[simp] theorem bodyOk_62 : bodyOk Tryd.f62 = true := by kernel_rfl
@[simp] theorem okFn_63 : okFn Tryd.prog 63 = true := by kernel_rfl
@[simp] theorem ptys_63 : ptys Tryd.prog 63 = [34] := by kernel_rfl
@[simp] theorem rtys_63 : rtys Tryd.prog 63 = [122] := by kernel_rfl
@[simp] theorem flatF_63 : flatF Tryd.prog 63 = false := by kernel_rfl
@[simp] theorem bodyOk_63 : bodyOk Tryd.f63 = true := by kernel_rfl
@[simp] theorem okFn_64 : okFn Tryd.prog 64 = true := by kernel_rfl
@[simp] theorem ptys_64 : ptys Tryd.prog 64 = [34, 3] := by kernel_rfl
@[simp] theorem rtys_64 : rtys Tryd.prog 64 = [34] := by kernel_rfl
@[simp] theorem flatF_64 : flatF Tryd.prog 64 = true := by kernel_rfl
@[simp] theorem bodyOk_64 : bodyOk Tryd.f64 = true := by kernel_rfl
@[simp] theorem okFn_65 : okFn Tryd.prog 65 = true := by kernel_rfl
@[simp] theorem ptys_65 : ptys Tryd.prog 65 = [9] := by kernel_rfl
@[simp] theorem rtys_65 : rtys Tryd.prog 65 = [] := by kernel_rfl
@[simp] theorem flatF_65 : flatF Tryd.prog 65 = true := by kernel_rfl
@[simp] theorem bodyOk_65 : bodyOk Tryd.f65 = true := by kernel_rfl
@[simp] theorem okFn_66 : okFn Tryd.prog 66 = true := by kernel_rfl
@[simp] theorem ptys_66 : ptys Tryd.prog 66 = [102] := by kernel_rfl
@[simp] theorem rtys_66 : rtys Tryd.prog 66 = [102] := by kernel_rfl
@[simp] theorem flatF_66 : flatF Tryd.prog 66 = true := by kernel_rfl
@[simp] theorem bodyOk_66 : bodyOk Tryd.f66 = true := by kernel_rfl
@[simp] theorem okFn_67 : okFn Tryd.prog 67 = true := by kernel_rfl
@[simp] theorem ptys_67 : ptys Tryd.prog 67 = [132] := by kernel_rfl
@[simp] theorem rtys_67 : rtys Tryd.prog 67 = [34] := by kernel_rfl
@[simp] theorem flatF_67 : flatF Tryd.prog 67 = true := by kernel_rfl
@[simp] theorem bodyOk_67 : bodyOk Tryd.f67 = true := by kernel_rfl
@[simp] theorem okFn_68 : okFn Tryd.prog 68 = true := by kernel_rfl
@[simp] theorem ptys_68 : ptys Tryd.prog 68 = [3] := by kernel_rfl
@[simp] theorem rtys_68 : rtys Tryd.prog 68 = [34] := by kernel_rfl
@[simp] theorem flatF_68 : flatF Tryd.prog 68 = true := by kernel_rfl
@[simp] theorem bodyOk_68 : bodyOk Tryd.f68 = true := by kernel_rfl
@[simp] theorem okFn_69 : okFn Tryd.prog 69 = true := by kernel_rfl
@[simp] theorem ptys_69 : ptys Tryd.prog 69 = [3] := by kernel_rfl
@[simp] theorem rtys_69 : rtys Tryd.prog 69 = [34] := by kernel_rfl
@[simp] theorem flatF_69 : flatF Tryd.prog 69 = true := by kernel_rfl
@[simp] theorem bodyOk_69 : bodyOk Tryd.f69 = true := by kernel_rfl
@[simp] theorem okFn_70 : okFn Tryd.prog 70 = true := by kernel_rfl
@[simp] theorem ptys_70 : ptys Tryd.prog 70 = [145, 3, 3, 34] := by kernel_rfl
@[simp] theorem rtys_70 : rtys Tryd.prog 70 = [34] := by kernel_rfl
@[simp] theorem flatF_70 : flatF Tryd.prog 70 = true := by kernel_rfl
@[simp] theorem bodyOk_70 : bodyOk Tryd.f70 = true := by kernel_rfl
@[simp] theorem okFn_71 : okFn Tryd.prog 71 = true := by kernel_rfl
@[simp] theorem ptys_71 : ptys Tryd.prog 71 = [145] := by kernel_rfl
@[simp] theorem rtys_71 : rtys Tryd.prog 71 = [4] := by kernel_rfl
@[simp] theorem flatF_71 : flatF Tryd.prog 71 = true := by kernel_rfl
@[simp] theorem bodyOk_71 : bodyOk Tryd.f71 = true := by kernel_rfl
@[simp] theorem okFn_72 : okFn Tryd.prog 72 = true := by kernel_rfl
@[simp] theorem ptys_72 : ptys Tryd.prog 72 = [87] := by kernel_rfl
@[simp] theorem rtys_72 : rtys Tryd.prog 72 = [4] := by kernel_rfl
@[simp] theorem flatF_72 : flatF Tryd.prog 72 = true := by kernel_rfl
@[simp] theorem bodyOk_72 : bodyOk Tryd.f72 = true := by kernel_rfl
@[simp] theorem okFn_73 : okFn Tryd.prog 73 = true := by kernel_rfl
@[simp] theorem ptys_73 : ptys Tryd.prog 73 = [70] := by kernel_rfl
@[simp] theorem rtys_73 : rtys Tryd.prog 73 = [117, 137] := by kernel_rfl
@[simp] theorem flatF_73 : flatF Tryd.prog 73 = false := by kernel_rfl
@[simp] theorem bodyOk_73 : bodyOk Tryd.f73 = true := by kernel_rfl
@[simp] theorem okFn_74 : okFn Tryd.prog 74 = true := by kernel_rfl
@[simp] theorem ptys_74 : ptys Tryd.prog 74 = [153] := by kernel_rfl
@[simp] theorem rtys_74 : rtys Tryd.prog 74 = [] := by kernel_rfl
@[simp] theorem flatF_74 : flatF Tryd.prog 74 = true := by kernel_rfl
@[simp] theorem bodyOk_74 : bodyOk Tryd.f74 = true := by kernel_rfl
@[simp] theorem okFn_77 : okFn Tryd.prog 77 = true := by kernel_rfl
@[simp] theorem ptys_77 : ptys Tryd.prog 77 = [34, 3] := by kernel_rfl
@[simp] theorem rtys_77 : rtys Tryd.prog 77 = [34] := by kernel_rfl
@[simp] theorem flatF_77 : flatF Tryd.prog 77 = true := by kernel_rfl
@[simp] theorem bodyOk_77 : bodyOk Tryd.f77 = true := by kernel_rfl
@[simp] theorem okFn_78 : okFn Tryd.prog 78 = true := by kernel_rfl
@[simp] theorem ptys_78 : ptys Tryd.prog 78 = [32, 3] := by kernel_rfl
@[simp] theorem rtys_78 : rtys Tryd.prog 78 = [32] := by kernel_rfl
@[simp] theorem flatF_78 : flatF Tryd.prog 78 = true := by kernel_rfl
@[simp] theorem bodyOk_78 : bodyOk Tryd.f78 = true := by kernel_rfl
@[simp] theorem okFn_79 : okFn Tryd.prog 79 = true := by kernel_rfl
@[simp] theorem ptys_79 : ptys Tryd.prog 79 = [145] := by kernel_rfl
@[simp] theorem rtys_79 : rtys Tryd.prog 79 = [34] := by kernel_rfl
@[simp] theorem flatF_79 : flatF Tryd.prog 79 = true := by kernel_rfl
@[simp] theorem bodyOk_79 : bodyOk Tryd.f79 = true := by kernel_rfl
@[simp] theorem okFn_80 : okFn Tryd.prog 80 = true := by kernel_rfl
@[simp] theorem ptys_80 : ptys Tryd.prog 80 = [3] := by kernel_rfl
@[simp] theorem rtys_80 : rtys Tryd.prog 80 = [4] := by kernel_rfl
@[simp] theorem flatF_80 : flatF Tryd.prog 80 = true := by kernel_rfl
@[simp] theorem bodyOk_80 : bodyOk Tryd.f80 = true := by kernel_rfl
@[simp] theorem okFn_81 : okFn Tryd.prog 81 = true := by kernel_rfl
@[simp] theorem ptys_81 : ptys Tryd.prog 81 = [3] := by kernel_rfl
@[simp] theorem rtys_81 : rtys Tryd.prog 81 = [148] := by kernel_rfl
@[simp] theorem flatF_81 : flatF Tryd.prog 81 = true := by kernel_rfl
@[simp] theorem bodyOk_81 : bodyOk Tryd.f81 = true := by kernel_rfl
@[simp] theorem okFn_82 : okFn Tryd.prog 82 = true := by kernel_rfl
@[simp] theorem ptys_82 : ptys Tryd.prog 82 = [3, 3, 4] := by kernel_rfl
@[simp] theorem rtys_82 : rtys Tryd.prog 82 = [4] := by kernel_rfl
@[simp] theorem flatF_82 : flatF Tryd.prog 82 = true := by kernel_rfl
@[simp] theorem bodyOk_82 : bodyOk Tryd.f82 = true := by kernel_rfl
@[simp] theorem okFn_83 : okFn Tryd.prog 83 = true := by kernel_rfl
@[simp] theorem ptys_83 : ptys Tryd.prog 83 = [32] := by kernel_rfl
@[simp] theorem rtys_83 : rtys Tryd.prog 83 = [87, 28] := by kernel_rfl
@[simp] theorem flatF_83 : flatF Tryd.prog 83 = true := by kernel_rfl
@[simp] theorem bodyOk_83 : bodyOk Tryd.f83 = true := by kernel_rfl
@[simp] theorem okFn_84 : okFn Tryd.prog 84 = true := by kernel_rfl
@[simp] theorem ptys_84 : ptys Tryd.prog 84 = [153, 3, 32] := by kernel_rfl
@[simp] theorem rtys_84 : rtys Tryd.prog 84 = [] := by kernel_rfl
@[simp] theorem flatF_84 : flatF Tryd.prog 84 = true := by kernel_rfl
@[simp] theorem bodyOk_84 : bodyOk Tryd.f84 = true := by kernel_rfl
@[simp] theorem okFn_85 : okFn Tryd.prog 85 = true := by kernel_rfl
@[simp] theorem ptys_85 : ptys Tryd.prog 85 = [55, 32, 3] := by kernel_rfl
@[simp] theorem rtys_85 : rtys Tryd.prog 85 = [32, 4] := by kernel_rfl
@[simp] theorem flatF_85 : flatF Tryd.prog 85 = true := by kernel_rfl
@[simp] theorem bodyOk_85 : bodyOk Tryd.f85 = true := by kernel_rfl
@[simp] theorem okFn_86 : okFn Tryd.prog 86 = true := by kernel_rfl
@[simp] theorem ptys_86 : ptys Tryd.prog 86 = [153, 4, 3] := by kernel_rfl
@[simp] theorem rtys_86 : rtys Tryd.prog 86 = [] := by kernel_rfl
@[simp] theorem flatF_86 : flatF Tryd.prog 86 = true := by kernel_rfl
@[simp] theorem bodyOk_86 : bodyOk Tryd.f86 = true := by kernel_rfl
@[simp] theorem okFn_87 : okFn Tryd.prog 87 = true := by kernel_rfl
@[simp] theorem ptys_87 : ptys Tryd.prog 87 = [3, 32, 32] := by kernel_rfl
@[simp] theorem rtys_87 : rtys Tryd.prog 87 = [32, 28] := by kernel_rfl
@[simp] theorem flatF_87 : flatF Tryd.prog 87 = true := by kernel_rfl
@[simp] theorem bodyOk_87 : bodyOk Tryd.f87 = true := by kernel_rfl
@[simp] theorem okFn_88 : okFn Tryd.prog 88 = true := by kernel_rfl
@[simp] theorem ptys_88 : ptys Tryd.prog 88 = [32, 3] := by kernel_rfl
@[simp] theorem rtys_88 : rtys Tryd.prog 88 = [32] := by kernel_rfl
@[simp] theorem flatF_88 : flatF Tryd.prog 88 = true := by kernel_rfl
@[simp] theorem bodyOk_88 : bodyOk Tryd.f88 = true := by kernel_rfl
@[simp] theorem okFn_89 : okFn Tryd.prog 89 = true := by kernel_rfl
@[simp] theorem ptys_89 : ptys Tryd.prog 89 = [87] := by kernel_rfl
@[simp] theorem rtys_89 : rtys Tryd.prog 89 = [4] := by kernel_rfl
@[simp] theorem flatF_89 : flatF Tryd.prog 89 = true := by kernel_rfl
@[simp] theorem bodyOk_89 : bodyOk Tryd.f89 = true := by kernel_rfl
@[simp] theorem okFn_90 : okFn Tryd.prog 90 = true := by kernel_rfl
@[simp] theorem ptys_90 : ptys Tryd.prog 90 = [3, 32, 32] := by kernel_rfl
@[simp] theorem rtys_90 : rtys Tryd.prog 90 = [32] := by kernel_rfl
@[simp] theorem flatF_90 : flatF Tryd.prog 90 = true := by kernel_rfl
@[simp] theorem bodyOk_90 : bodyOk Tryd.f90 = true := by kernel_rfl
@[simp] theorem okFn_91 : okFn Tryd.prog 91 = true := by kernel_rfl
@[simp] theorem ptys_91 : ptys Tryd.prog 91 = [3, 32, 32] := by kernel_rfl
@[simp] theorem rtys_91 : rtys Tryd.prog 91 = [32] := by kernel_rfl
@[simp] theorem flatF_91 : flatF Tryd.prog 91 = true := by kernel_rfl
@[simp] theorem bodyOk_91 : bodyOk Tryd.f91 = true := by kernel_rfl
@[simp] theorem okFn_92 : okFn Tryd.prog 92 = true := by kernel_rfl
@[simp] theorem ptys_92 : ptys Tryd.prog 92 = [4] := by kernel_rfl
@[simp] theorem rtys_92 : rtys Tryd.prog 92 = [32] := by kernel_rfl
@[simp] theorem flatF_92 : flatF Tryd.prog 92 = true := by kernel_rfl
@[simp] theorem bodyOk_92 : bodyOk Tryd.f92 = true := by kernel_rfl
@[simp] theorem okFn_93 : okFn Tryd.prog 93 = true := by kernel_rfl
@[simp] theorem ptys_93 : ptys Tryd.prog 93 = [3] := by kernel_rfl
@[simp] theorem rtys_93 : rtys Tryd.prog 93 = [9] := by kernel_rfl
@[simp] theorem flatF_93 : flatF Tryd.prog 93 = true := by kernel_rfl
@[simp] theorem bodyOk_93 : bodyOk Tryd.f93 = true := by kernel_rfl
@[simp] theorem okFn_94 : okFn Tryd.prog 94 = true := by kernel_rfl
@[simp] theorem ptys_94 : ptys Tryd.prog 94 = [9, 5] := by kernel_rfl
@[simp] theorem rtys_94 : rtys Tryd.prog 94 = [4] := by kernel_rfl
@[simp] theorem flatF_94 : flatF Tryd.prog 94 = true := by kernel_rfl
@[simp] theorem bodyOk_94 : bodyOk Tryd.f94 = true := by kernel_rfl
@[simp] theorem okFn_95 : okFn Tryd.prog 95 = true := by kernel_rfl
@[simp] theorem ptys_95 : ptys Tryd.prog 95 = [4, 3, 3] := by kernel_rfl
@[simp] theorem rtys_95 : rtys Tryd.prog 95 = [4] := by kernel_rfl
@[simp] theorem flatF_95 : flatF Tryd.prog 95 = true := by kernel_rfl
@[simp] theorem bodyOk_95 : bodyOk Tryd.f95 = true := by kernel_rfl
@[simp] theorem okFn_96 : okFn Tryd.prog 96 = true := by kernel_rfl
@[simp] theorem ptys_96 : ptys Tryd.prog 96 = [32] := by kernel_rfl
@[simp] theorem rtys_96 : rtys Tryd.prog 96 = [122] := by kernel_rfl
@[simp] theorem flatF_96 : flatF Tryd.prog 96 = false := by kernel_rfl
@[simp] theorem bodyOk_96 : bodyOk Tryd.f96 = true := by kernel_rfl
@[simp] theorem okFn_97 : okFn Tryd.prog 97 = true := by kernel_rfl
@[simp] theorem ptys_97 : ptys Tryd.prog 97 = [122] := by kernel_rfl
@[simp] theorem rtys_97 : rtys Tryd.prog 97 = [32] := by kernel_rfl
@[simp] theorem flatF_97 : flatF Tryd.prog 97 = true := by kernel_rfl
@[simp] theorem bodyOk_97 : bodyOk Tryd.f97 = true := by kernel_rfl
end Go.Proofs.YtdokejnokhicbaaDoor
