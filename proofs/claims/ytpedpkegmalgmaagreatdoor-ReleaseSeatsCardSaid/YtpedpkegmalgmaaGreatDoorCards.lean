/-
  DERIVED. GIVEN WITH THE SEED: THE CARDS: each row of YtpedpkegmalgmaaGreatDoorRows.lean that lists a variable, with what it lists TIED to the program's text (the seventh form; the later family's looks); each row that meets fmt, with fmt's text TOLD by the authors' own Lean function (tested against real Go, not proved from fmt's source: count such statements apart). THE CARD IS WHAT COUNTS. Prove the row's statement (the work); the ties are given (YtpedpkegmalgmaaGreatDoorTie.lean); close each card by the builder's one call (the guide's Derived/Test/ToyasCard.lean, 'card_holds'). Laid BY PROGRAM, IN A SANDBOX (cutbox-door.mjs). By AI agents, Wed Nov 11 2026. No macro, syntax, notation, axiom, sorry.
-/
import Derived.Test.YtpedpkegmalgmaaGreatDoorRows
import GoSem.ClaimSeven
namespace Go.Proofs.YtpedpkegmalgmaaGreatDoor
namespace Rows

/-- THE TIED CARD OF 'seedcornlaw49.ReleaseOf'. -/
def releaseOfCard : Claim7 := { stood := { row := releaseOfRow, standIns := [], harness := (true, "718bacdaad03e8aec9fb345cbad865f23233e0bd1fc8bd51a8f89ee749c97eee"), looks := true }, kinds := [], alts := [], laidByText := true, laidKinds := [.data, .data, .data], laidTests := true, laidLooks := .later }
def ReleaseOfCardSaid : Prop := Claim7.holds Tryz.pinned (.plain (OpenSpec.ofChange releaseOfSpec)) releaseOfCard

/-- THE TIED CARD OF 'seedcornlaw49.ReleaseSeats'. -/
def releaseSeatsCard : Claim7 := { stood := { row := releaseSeatsRow, standIns := [], harness := (true, "718bacdaad03e8aec9fb345cbad865f23233e0bd1fc8bd51a8f89ee749c97eee"), looks := true }, kinds := [], alts := [], laidByText := true, laidKinds := [.data, .data, .data], laidTests := true, laidLooks := .later }
def ReleaseSeatsCardSaid : Prop := Claim7.holds Tryz.pinned (.plain (OpenSpec.ofChange releaseSeatsSpec)) releaseSeatsCard

/-- THE SECOND FORM's CARD OF 'seedcornlaw49.ReleaseOf'. -/
def releaseOfUptoCard : Claim7 := { stood := { row := releaseOfUptoRow, standIns := [], harness := (true, "718bacdaad03e8aec9fb345cbad865f23233e0bd1fc8bd51a8f89ee749c97eee"), looks := true }, kinds := [], alts := [], laidByText := true, laidKinds := [.data, .data, .data], laidTests := true, laidLooks := .later }
def ReleaseOfUptoCardSaid : Prop := Claim7.holds Tryz.pinned (.plain (OpenSpec.upto releaseOfSpec)) releaseOfUptoCard

/-- THE SECOND FORM's CARD OF 'seedcornlaw49.ReleaseSeats'. -/
def releaseSeatsUptoCard : Claim7 := { stood := { row := releaseSeatsUptoRow, standIns := [], harness := (true, "718bacdaad03e8aec9fb345cbad865f23233e0bd1fc8bd51a8f89ee749c97eee"), looks := true }, kinds := [], alts := [], laidByText := true, laidKinds := [.data, .data, .data], laidTests := true, laidLooks := .later }
def ReleaseSeatsUptoCardSaid : Prop := Claim7.holds Tryz.pinned (.plain (OpenSpec.upto releaseSeatsSpec)) releaseSeatsUptoCard
end Rows
end Go.Proofs.YtpedpkegmalgmaaGreatDoor
