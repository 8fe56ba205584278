/- What simp computes of the evaluator. No program of Go is named here. -/
import Derived.Test.YtmfhdhiaokejdaaAb22
namespace Go.Ab
open Go
set_option linter.unusedSimpArgs false
set_option linter.unusedVariables false
attribute [simp] Prog.run Prog.bind evOps guardA evOp opA assignP evBin evInt evStr evUn newBox settleL settle newArr loadP cellsFrom getCs putCs storeP shiftA fieldP indexP lenP chk chkL cellsA aggA allSc toDat toDatL callP argsP oneV takeRes takeAll takeOne takeL takeCell
  resultsP resultP hand handL handCell sliceP bound rowsP appendP makeP fillA buildP rowsOfParts buildSliceP partA fieldVP indexVP convertP bytesOfRows eqV eqL cellFits fitsL splice chunks isDat cellOf setCellOf runDraw stepF Prog.runF frame0 Value.oneCell'
@[simp] theorem gen_no (g : Nat) : (AObj.no g).gen = g := (rfl)
@[simp] theorem gen_box (g : Nat) (c : List AV) (f : Bool) : (AObj.box g c f).gen = g := (rfl)
@[simp] theorem gen_arr (g sz : Nat) (e : TypeId) (r : List (List AV)) (f : Bool) : (AObj.arr g sz e r f).gen = g := (rfl)
@[simp] theorem head_no (g : Nat) : (AObj.no g).head = .no := (rfl)
@[simp] theorem head_box (g : Nat) (c : List AV) (f : Bool) : (AObj.box g c f).head = .box g c.length f := (rfl)
@[simp] theorem head_arr (g sz : Nat) (e : TypeId) (r : List (List AV)) (f : Bool) : (AObj.arr g sz e r f).head = .arr g sz e r.length f := (rfl)
@[simp] theorem hp0_app (x : Nm) : hp0 x = .no 0 := rfl
@[simp] theorem maxLen_eq : maxLen = 9223372036854775807 := rfl
end Go.Ab
