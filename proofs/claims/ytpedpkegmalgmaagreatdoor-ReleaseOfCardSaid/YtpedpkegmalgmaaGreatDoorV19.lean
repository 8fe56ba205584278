/- A part of the proof: Cfr. -/
import Derived.Test.YtpedpkegmalgmaaGreatDoorV09
set_option linter.unusedSimpArgs false
set_option linter.unusedVariables false
namespace Go.Proofs.YtpedpkegmalgmaaGreatDoor
open Go Go.Ab Go.ChangeShapes Go.WideShapes Go.ChangeAt Go.RowKit
theorem c3_place : (Rows.releaseOfRow.inPlace == Tryz.prog.inPlace 3) = true := by kernel_rfl
theorem c3_unf : (Rows.releaseOfRow.unfollowed == Tryz.prog.unfollowed 3) = true := by kernel_rfl
theorem c3_rec : (Rows.releaseOfRow.recurses == Tryz.prog.recurses 3) = true := by kernel_rfl
theorem c3_named : (Rows.releaseOfRow.named == Tryz.prog.varsNamed 3) = true := by kernel_rfl
theorem c3_keys : (Rows.releaseOfRow.plainKeys == Tryz.prog.plainKeys) = true := by kernel_rfl
theorem c3_lifted : (Rows.releaseOfRow.lifted == Tryz.prog.liftsFinal) = true := by kernel_rfl
theorem c3_make : (Tryz.prog.make == some Rows.releaseOfRow.make) = true := by kernel_rfl
theorem joined3 : joinedFacts Tryz.prog 3 Tryz.f3 Rows.releaseOfSpec Rows.releaseOfRow = true := by
  unfold joinedFacts
  simp only [Bool.and_eq_true]
  repeat' apply And.intro
  all_goals first
    | with_reducible exact laidOut47
    | with_reducible exact rowed47
    | with_reducible exact heard47
    | with_reducible exact enter47
    | with_reducible exact c3_place
    | with_reducible exact c3_unf
    | with_reducible exact c3_rec
    | with_reducible exact c3_named
    | with_reducible exact c3_keys
    | with_reducible exact c3_lifted
    | with_reducible exact c3_make
    | (as_aux_lemma => kernel_rfl)
end Go.Proofs.YtpedpkegmalgmaaGreatDoor
