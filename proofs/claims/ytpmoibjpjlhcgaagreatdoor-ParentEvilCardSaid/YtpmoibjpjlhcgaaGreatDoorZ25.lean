/- A part of the proof: Cf9. -/
import Derived.Test.YtpmoibjpjlhcgaaGreatDoorZ17
set_option linter.unusedSimpArgs false
set_option linter.unusedVariables false
namespace Go.Proofs.YtpmoibjpjlhcgaaGreatDoor
open Go Go.Ab Go.ChangeShapes Go.WideShapes Go.ChangeAt Go.RowKit
theorem c3_place : (Rows.parentEvilRow.inPlace == Tryz.prog.inPlace 3) = true := by kernel_rfl
theorem c3_unf : (Rows.parentEvilRow.unfollowed == Tryz.prog.unfollowed 3) = true := by kernel_rfl
theorem c3_rec : (Rows.parentEvilRow.recurses == Tryz.prog.recurses 3) = true := by kernel_rfl
theorem c3_named : (Rows.parentEvilRow.named == Tryz.prog.varsNamed 3) = true := by kernel_rfl
theorem c3_keys : (Rows.parentEvilRow.plainKeys == Tryz.prog.plainKeys) = true := by kernel_rfl
theorem c3_lifted : (Rows.parentEvilRow.lifted == Tryz.prog.liftsFinal) = true := by kernel_rfl
theorem c3_make : (Tryz.prog.make == some Rows.parentEvilRow.make) = true := by kernel_rfl
theorem joined3 : joinedFacts Tryz.prog 3 Tryz.f3 Rows.parentEvilSpec Rows.parentEvilRow = true := by
  unfold joinedFacts
  simp only [Bool.and_eq_true]
  repeat' apply And.intro
  all_goals first
    | with_reducible exact laidOut47
    | with_reducible exact rowed47
    | with_reducible exact heard47
    | with_reducible exact enter47
    | with_reducible exact c3_place
    | with_reducible exact c3_unf
    | with_reducible exact c3_rec
    | with_reducible exact c3_named
    | with_reducible exact c3_keys
    | with_reducible exact c3_lifted
    | with_reducible exact c3_make
    | (as_aux_lemma => kernel_rfl)
end Go.Proofs.YtpmoibjpjlhcgaaGreatDoor
