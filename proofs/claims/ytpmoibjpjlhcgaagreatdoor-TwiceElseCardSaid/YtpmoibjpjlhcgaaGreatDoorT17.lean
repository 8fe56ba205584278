/- A part of the proof: Cfm. -/
import Derived.Test.YtpmoibjpjlhcgaaGreatDoorT10
set_option linter.unusedSimpArgs false
set_option linter.unusedVariables false
namespace Go.Proofs.YtpmoibjpjlhcgaaGreatDoor
open Go Go.Ab Go.ChangeShapes Go.WideShapes Go.ChangeAt Go.RowKit
theorem Mga : (Rows.twiceElseRow.inPlace == Tryz.prog.inPlace 5) = true := by kernel_rfl
theorem c5_unf : (Rows.twiceElseRow.unfollowed == Tryz.prog.unfollowed 5) = true := by kernel_rfl
theorem c5_rec : (Rows.twiceElseRow.recurses == Tryz.prog.recurses 5) = true := by kernel_rfl
theorem Mha : (Rows.twiceElseRow.named == Tryz.prog.varsNamed 5) = true := by kernel_rfl
theorem c5_keys : (Rows.twiceElseRow.plainKeys == Tryz.prog.plainKeys) = true := by kernel_rfl
theorem Fja : (Rows.twiceElseRow.lifted == Tryz.prog.liftsFinal) = true := by kernel_rfl
theorem c5_make : (Tryz.prog.make == some Rows.twiceElseRow.make) = true := by kernel_rfl
theorem joined5 : joinedFacts Tryz.prog 5 Tryz.f5 Rows.twiceElseSpec Rows.twiceElseRow = true := by
  unfold joinedFacts
  simp only [Bool.and_eq_true]
  repeat' apply And.intro
  all_goals first
    | with_reducible exact Qh
    | with_reducible exact rowed47
    | with_reducible exact heard47
    | with_reducible exact enter47
    | with_reducible exact Mga
    | with_reducible exact c5_unf
    | with_reducible exact c5_rec
    | with_reducible exact Mha
    | with_reducible exact c5_keys
    | with_reducible exact Fja
    | with_reducible exact c5_make
    | (as_aux_lemma => kernel_rfl)
end Go.Proofs.YtpmoibjpjlhcgaaGreatDoor
