/-
  DERIVED. GIVEN WITH THE SEED: THE CARDS: each row of YtdokejnokhicbaaDoorRows.lean that lists a variable, with what it lists TIED to the program's text (the seventh form; the later family's looks); each row that meets fmt, with fmt's text TOLD by the authors' own Lean function (tested against real Go, not proved from fmt's source: count such statements apart). THE CARD IS WHAT COUNTS. Prove the row's statement (the work); the ties are given (YtdokejnokhicbaaDoorTie.lean); close each card by the builder's one call (the guide's Derived/Test/ToyasCard.lean, 'card_holds'). Laid BY PROGRAM, IN A SANDBOX (cutbox-door.mjs). By AI agents, Wed Nov 11 2026. No macro, syntax, notation, axiom, sorry.
-/
import Derived.Test.YtdokejnokhicbaaDoorRows
import GoSem.ClaimSeven
namespace Go.Proofs.YtdokejnokhicbaaDoor
namespace Rows

/-- THE TIED CARD OF 'seedcornlaw47.KitLost'. -/
def kitLostCard : Claim7 := { stood := { row := kitLostRow, standIns := [], harness := (true, "df406ba73a549b000dfcf1033af7267ffb742083926a3c04ec9ca39710a45994"), looks := false }, kinds := [], alts := [], laidByText := true, laidKinds := [.data], laidTests := true, laidLooks := .later }
def KitLostCardSaid : Prop := Claim7.holds Tryd.pinned (.plain (OpenSpec.ofChange kitLostSpec)) kitLostCard

/-- THE TIED CARD OF 'seedcornlaw47.KitLies'. -/
def kitLiesCard : Claim7 := { stood := { row := kitLiesRow, standIns := [], harness := (true, "df406ba73a549b000dfcf1033af7267ffb742083926a3c04ec9ca39710a45994"), looks := false }, kinds := [], alts := [], laidByText := true, laidKinds := [.data], laidTests := true, laidLooks := .later }
def KitLiesCardSaid : Prop := Claim7.holds Tryd.pinned (.plain (OpenSpec.ofChange kitLiesSpec)) kitLiesCard

/-- THE SECOND FORM's CARD OF 'seedcornlaw47.KitLost'. -/
def kitLostUptoCard : Claim7 := { stood := { row := kitLostUptoRow, standIns := [], harness := (true, "df406ba73a549b000dfcf1033af7267ffb742083926a3c04ec9ca39710a45994"), looks := false }, kinds := [], alts := [], laidByText := true, laidKinds := [.data], laidTests := true, laidLooks := .later }
def KitLostUptoCardSaid : Prop := Claim7.holds Tryd.pinned (.plain (OpenSpec.upto kitLostSpec)) kitLostUptoCard

/-- THE SECOND FORM's CARD OF 'seedcornlaw47.KitLies'. -/
def kitLiesUptoCard : Claim7 := { stood := { row := kitLiesUptoRow, standIns := [], harness := (true, "df406ba73a549b000dfcf1033af7267ffb742083926a3c04ec9ca39710a45994"), looks := false }, kinds := [], alts := [], laidByText := true, laidKinds := [.data], laidTests := true, laidLooks := .later }
def KitLiesUptoCardSaid : Prop := Claim7.holds Tryd.pinned (.plain (OpenSpec.upto kitLiesSpec)) kitLiesUptoCard
end Rows
end Go.Proofs.YtdokejnokhicbaaDoor
