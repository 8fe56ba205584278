/- A part of the proof: Cf7. -/
import Derived.Test.YtaeeffddinppeaaGreatDoorR20
set_option linter.unusedSimpArgs false
set_option linter.unusedVariables false
namespace Go.Proofs.YtaeeffddinppeaaGreatDoor
open Go Go.Ab Go.ChangeShapes Go.WideShapes Go.ChangeAt Go.RowKit
theorem c7_place : (Rows.twiceFixesRow.inPlace == Tryz.prog.inPlace 7) = true := by kernel_rfl
theorem c7_unf : (Rows.twiceFixesRow.unfollowed == Tryz.prog.unfollowed 7) = true := by kernel_rfl
theorem c7_rec : (Rows.twiceFixesRow.recurses == Tryz.prog.recurses 7) = true := by kernel_rfl
theorem c7_named : (Rows.twiceFixesRow.named == Tryz.prog.varsNamed 7) = true := by kernel_rfl
theorem c7_keys : (Rows.twiceFixesRow.plainKeys == Tryz.prog.plainKeys) = true := by kernel_rfl
theorem c7_lifted : (Rows.twiceFixesRow.lifted == Tryz.prog.liftsFinal) = true := by kernel_rfl
theorem c7_make : (Tryz.prog.make == some Rows.twiceFixesRow.make) = true := by kernel_rfl
theorem joined7 : joinedFacts Tryz.prog 7 Tryz.f7 Rows.twiceFixesSpec Rows.twiceFixesRow = true := by
  unfold joinedFacts
  simp only [Bool.and_eq_true]
  repeat' apply And.intro
  all_goals first
    | with_reducible exact laidOut47
    | with_reducible exact rowed47
    | with_reducible exact heard47
    | with_reducible exact enter47
    | with_reducible exact c7_place
    | with_reducible exact c7_unf
    | with_reducible exact c7_rec
    | with_reducible exact c7_named
    | with_reducible exact c7_keys
    | with_reducible exact c7_lifted
    | with_reducible exact c7_make
    | (as_aux_lemma => kernel_rfl)
end Go.Proofs.YtaeeffddinppeaaGreatDoor
