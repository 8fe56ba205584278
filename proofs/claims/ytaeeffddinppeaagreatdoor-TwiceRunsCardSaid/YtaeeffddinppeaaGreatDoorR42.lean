/- A part of the proof: Cf6. -/
import Derived.Test.YtaeeffddinppeaaGreatDoorR20
set_option linter.unusedSimpArgs false
set_option linter.unusedVariables false
namespace Go.Proofs.YtaeeffddinppeaaGreatDoor
open Go Go.Ab Go.ChangeShapes Go.WideShapes Go.ChangeAt Go.RowKit
theorem c6_place : (Rows.twiceRunsRow.inPlace == Tryz.prog.inPlace 6) = true := by kernel_rfl
theorem c6_unf : (Rows.twiceRunsRow.unfollowed == Tryz.prog.unfollowed 6) = true := by kernel_rfl
theorem c6_rec : (Rows.twiceRunsRow.recurses == Tryz.prog.recurses 6) = true := by kernel_rfl
theorem c6_named : (Rows.twiceRunsRow.named == Tryz.prog.varsNamed 6) = true := by kernel_rfl
theorem c6_keys : (Rows.twiceRunsRow.plainKeys == Tryz.prog.plainKeys) = true := by kernel_rfl
theorem c6_lifted : (Rows.twiceRunsRow.lifted == Tryz.prog.liftsFinal) = true := by kernel_rfl
theorem c6_make : (Tryz.prog.make == some Rows.twiceRunsRow.make) = true := by kernel_rfl
theorem joined6 : joinedFacts Tryz.prog 6 Tryz.f6 Rows.twiceRunsSpec Rows.twiceRunsRow = true := by
  unfold joinedFacts
  simp only [Bool.and_eq_true]
  repeat' apply And.intro
  all_goals first
    | with_reducible exact laidOut47
    | with_reducible exact rowed47
    | with_reducible exact heard47
    | with_reducible exact enter47
    | with_reducible exact c6_place
    | with_reducible exact c6_unf
    | with_reducible exact c6_rec
    | with_reducible exact c6_named
    | with_reducible exact c6_keys
    | with_reducible exact c6_lifted
    | with_reducible exact c6_make
    | (as_aux_lemma => kernel_rfl)
end Go.Proofs.YtaeeffddinppeaaGreatDoor
