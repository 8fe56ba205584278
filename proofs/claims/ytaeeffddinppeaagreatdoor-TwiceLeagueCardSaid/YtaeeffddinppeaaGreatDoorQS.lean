/- Closed facts of the row. -/
import Derived.Test.YtaeeffddinppeaaGreatDoorQR
set_option linter.unusedSimpArgs false
set_option linter.unusedVariables false
namespace Go.Proofs.YtaeeffddinppeaaGreatDoor
open Go Go.Ab Go.ChangeShapes Go.WideShapes Go.ChangeAt Go.RowKit
theorem c5_place : (Rows.twiceLeagueRow.inPlace == Tryz.prog.inPlace 5) = true := by kernel_rfl
theorem c5_unf : (Rows.twiceLeagueRow.unfollowed == Tryz.prog.unfollowed 5) = true := by kernel_rfl
theorem c5_rec : (Rows.twiceLeagueRow.recurses == Tryz.prog.recurses 5) = true := by kernel_rfl
theorem c5_named : (Rows.twiceLeagueRow.named == Tryz.prog.varsNamed 5) = true := by kernel_rfl
theorem c5_keys : (Rows.twiceLeagueRow.plainKeys == Tryz.prog.plainKeys) = true := by kernel_rfl
theorem c5_lifted : (Rows.twiceLeagueRow.lifted == Tryz.prog.liftsFinal) = true := by kernel_rfl
theorem c5_make : (Tryz.prog.make == some Rows.twiceLeagueRow.make) = true := by kernel_rfl
theorem joined5 : joinedFacts Tryz.prog 5 Tryz.f5 Rows.twiceLeagueSpec Rows.twiceLeagueRow = true := by
  unfold joinedFacts
  simp only [Bool.and_eq_true]
  repeat' apply And.intro
  all_goals first
    | with_reducible exact laidOut47
    | with_reducible exact rowed47
    | with_reducible exact heard47
    | with_reducible exact enter47
    | with_reducible exact c5_place
    | with_reducible exact c5_unf
    | with_reducible exact c5_rec
    | with_reducible exact c5_named
    | with_reducible exact c5_keys
    | with_reducible exact c5_lifted
    | with_reducible exact c5_make
    | (as_aux_lemma => kernel_rfl)
end Go.Proofs.YtaeeffddinppeaaGreatDoor
