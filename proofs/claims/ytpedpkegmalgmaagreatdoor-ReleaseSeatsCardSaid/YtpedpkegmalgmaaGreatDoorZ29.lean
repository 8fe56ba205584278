/- A part of the proof: Cfs. -/
import Derived.Test.YtpedpkegmalgmaaGreatDoorZ11
set_option linter.unusedSimpArgs false
set_option linter.unusedVariables false
namespace Go.Proofs.YtpedpkegmalgmaaGreatDoor
open Go Go.Ab Go.ChangeShapes Go.WideShapes Go.ChangeAt Go.RowKit
theorem c4_place : (Rows.releaseSeatsRow.inPlace == Tryz.prog.inPlace 4) = true := by kernel_rfl
theorem c4_unf : (Rows.releaseSeatsRow.unfollowed == Tryz.prog.unfollowed 4) = true := by kernel_rfl
theorem c4_rec : (Rows.releaseSeatsRow.recurses == Tryz.prog.recurses 4) = true := by kernel_rfl
theorem c4_named : (Rows.releaseSeatsRow.named == Tryz.prog.varsNamed 4) = true := by kernel_rfl
theorem c4_keys : (Rows.releaseSeatsRow.plainKeys == Tryz.prog.plainKeys) = true := by kernel_rfl
theorem c4_lifted : (Rows.releaseSeatsRow.lifted == Tryz.prog.liftsFinal) = true := by kernel_rfl
theorem c4_make : (Tryz.prog.make == some Rows.releaseSeatsRow.make) = true := by kernel_rfl
theorem joined4 : joinedFacts Tryz.prog 4 Tryz.f4 Rows.releaseSeatsSpec Rows.releaseSeatsRow = true := by
  unfold joinedFacts
  simp only [Bool.and_eq_true]
  repeat' apply And.intro
  all_goals first
    | with_reducible exact laidOut47
    | with_reducible exact rowed47
    | with_reducible exact heard47
    | with_reducible exact enter47
    | with_reducible exact c4_place
    | with_reducible exact c4_unf
    | with_reducible exact c4_rec
    | with_reducible exact c4_named
    | with_reducible exact c4_keys
    | with_reducible exact c4_lifted
    | with_reducible exact c4_make
    | (as_aux_lemma => kernel_rfl)
end Go.Proofs.YtpedpkegmalgmaaGreatDoor
