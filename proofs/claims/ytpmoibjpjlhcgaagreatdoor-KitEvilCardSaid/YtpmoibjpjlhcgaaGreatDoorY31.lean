/- A part of the proof: Cfk. -/
import Derived.Test.YtpmoibjpjlhcgaaGreatDoorY17
set_option linter.unusedSimpArgs false
set_option linter.unusedVariables false
namespace Go.Proofs.YtpmoibjpjlhcgaaGreatDoor
open Go Go.Ab Go.ChangeShapes Go.WideShapes Go.ChangeAt Go.RowKit
theorem Jna : (Rows.kitEvilRow.inPlace == Tryz.prog.inPlace 4) = true := by kernel_rfl
theorem c4_unf : (Rows.kitEvilRow.unfollowed == Tryz.prog.unfollowed 4) = true := by kernel_rfl
theorem c4_rec : (Rows.kitEvilRow.recurses == Tryz.prog.recurses 4) = true := by kernel_rfl
theorem Joa : (Rows.kitEvilRow.named == Tryz.prog.varsNamed 4) = true := by kernel_rfl
theorem c4_keys : (Rows.kitEvilRow.plainKeys == Tryz.prog.plainKeys) = true := by kernel_rfl
theorem Coa : (Rows.kitEvilRow.lifted == Tryz.prog.liftsFinal) = true := by kernel_rfl
theorem c4_make : (Tryz.prog.make == some Rows.kitEvilRow.make) = true := by kernel_rfl
theorem joined4 : joinedFacts Tryz.prog 4 Tryz.f4 Rows.kitEvilSpec Rows.kitEvilRow = true := by
  unfold joinedFacts
  simp only [Bool.and_eq_true]
  repeat' apply And.intro
  all_goals first
    | with_reducible exact Oi
    | with_reducible exact rowed47
    | with_reducible exact heard47
    | with_reducible exact enter47
    | with_reducible exact Jna
    | with_reducible exact c4_unf
    | with_reducible exact c4_rec
    | with_reducible exact Joa
    | with_reducible exact c4_keys
    | with_reducible exact Coa
    | with_reducible exact c4_make
    | (as_aux_lemma => kernel_rfl)
end Go.Proofs.YtpmoibjpjlhcgaaGreatDoor
