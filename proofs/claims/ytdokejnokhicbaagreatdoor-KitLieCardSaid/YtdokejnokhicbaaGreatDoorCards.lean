/-
  DERIVED. GIVEN WITH THE SEED: THE CARDS: each row of YtdokejnokhicbaaGreatDoorRows.lean that lists a variable, with what it lists TIED to the program's text (the seventh form; the later family's looks); each row that meets fmt, with fmt's text TOLD by the authors' own Lean function (tested against real Go, not proved from fmt's source: count such statements apart). THE CARD IS WHAT COUNTS. Prove the row's statement (the work); the ties are given (YtdokejnokhicbaaGreatDoorTie.lean); close each card by the builder's one call (the guide's Derived/Test/ToyasCard.lean, 'card_holds'). Laid BY PROGRAM, IN A SANDBOX (cutbox-door.mjs). By AI agents, Wed Nov 11 2026. No macro, syntax, notation, axiom, sorry.
-/
import Derived.Test.YtdokejnokhicbaaGreatDoorRows
import GoSem.ClaimSeven
namespace Go.Proofs.YtdokejnokhicbaaGreatDoor
namespace Rows

/-- THE TIED CARD OF 'seedcornlaw47.KitLie'. -/
def kitLieCard : Claim7 := { stood := { row := kitLieRow, standIns := [], harness := (true, "6242fca31432c2fcb653aa55f7923382b45a9e2a0b3108b35f1d1399eb6cb29d"), looks := false }, kinds := [], alts := [], laidByText := true, laidKinds := [.data], laidTests := true, laidLooks := .later }
def KitLieCardSaid : Prop := Claim7.holds Tryz.pinned (.plain (OpenSpec.ofChange kitLieSpec)) kitLieCard

/-- THE SECOND FORM's CARD OF 'seedcornlaw47.KitLie'. -/
def kitLieUptoCard : Claim7 := { stood := { row := kitLieUptoRow, standIns := [], harness := (true, "6242fca31432c2fcb653aa55f7923382b45a9e2a0b3108b35f1d1399eb6cb29d"), looks := false }, kinds := [], alts := [], laidByText := true, laidKinds := [.data], laidTests := true, laidLooks := .later }
def KitLieUptoCardSaid : Prop := Claim7.holds Tryz.pinned (.plain (OpenSpec.upto kitLieSpec)) kitLieUptoCard
end Rows
end Go.Proofs.YtdokejnokhicbaaGreatDoor
