/-
  DERIVED. GIVEN WITH THE SEED: THE CARDS: each row of YtggghdmdjpianaaGreatDoorRows.lean that lists a variable, with what it lists TIED to the program's text (the seventh form; the later family's looks); each row that meets fmt, with fmt's text TOLD by the authors' own Lean function (tested against real Go, not proved from fmt's source: count such statements apart). THE CARD IS WHAT COUNTS. Prove the row's statement (the work); the ties are given (YtggghdmdjpianaaGreatDoorTie.lean); close each card by the builder's one call (the guide's Derived/Test/ToyasCard.lean, 'card_holds'). Laid BY PROGRAM, IN A SANDBOX (cutbox-door.mjs). By AI agents, Wed Nov 11 2026. No macro, syntax, notation, axiom, sorry.
-/
import Derived.Test.YtggghdmdjpianaaGreatDoorRows
import GoSem.ClaimSeven
namespace Go.Proofs.YtggghdmdjpianaaGreatDoor
namespace Rows

/-- THE TIED CARD OF 'seedcornlaw54.ConsoleMeans'. -/
def consoleMeansCard : Claim7 := { stood := { row := consoleMeansRow, standIns := [], harness := (true, "dee1b55c25bf6644d95ba3dc9abe60bc07889ced058c0433bf91fb9e9a4909e3"), looks := true }, kinds := [], alts := [], laidByText := true, laidKinds := [.data, .data, .data, .data, .data, .data, .data, .data, .pinned], laidTests := true, laidLooks := .later }
def ConsoleMeansCardSaid : Prop := Claim7.holds Tryz.pinned (.plain (OpenSpec.ofChange consoleMeansSpec)) consoleMeansCard

/-- THE SECOND FORM's CARD OF 'seedcornlaw54.ConsoleMeans'. -/
def consoleMeansUptoCard : Claim7 := { stood := { row := consoleMeansUptoRow, standIns := [], harness := (true, "dee1b55c25bf6644d95ba3dc9abe60bc07889ced058c0433bf91fb9e9a4909e3"), looks := true }, kinds := [], alts := [], laidByText := true, laidKinds := [.data, .data, .data, .data, .data, .data, .data, .data, .pinned], laidTests := true, laidLooks := .later }
def ConsoleMeansUptoCardSaid : Prop := Claim7.holds Tryz.pinned (.plain (OpenSpec.upto consoleMeansSpec)) consoleMeansUptoCard
end Rows
end Go.Proofs.YtggghdmdjpianaaGreatDoor
