/-
  DERIVED. GIVEN WITH THE SEED: THE CARDS: each row of YtpmoibjpjlhcgaaGreatDoorRows.lean that lists a variable, with what it lists TIED to the program's text (the seventh form; the later family's looks); each row that meets fmt, with fmt's text TOLD by the authors' own Lean function (tested against real Go, not proved from fmt's source: count such statements apart). THE CARD IS WHAT COUNTS. Prove the row's statement (the work); the ties are given (YtpmoibjpjlhcgaaGreatDoorTie.lean); close each card by the builder's one call (the guide's Derived/Test/ToyasCard.lean, 'card_holds'). Laid BY PROGRAM, IN A SANDBOX (cutbox-door.mjs). By AI agents, Wed Nov 11 2026. No macro, syntax, notation, axiom, sorry.
-/
import Derived.Test.YtpmoibjpjlhcgaaGreatDoorRows
import GoSem.ClaimSeven
namespace Go.Proofs.YtpmoibjpjlhcgaaGreatDoor
namespace Rows

/-- THE TIED CARD OF 'seedcornlaw46.ParentEvil'. -/
def parentEvilCard : Claim7 := { stood := { row := parentEvilRow, standIns := [], harness := (true, "9af948d861266ff3bd089b78e4c22ef22adc0b2f68b23f2cfba810a7da85b25a"), looks := true }, kinds := [], alts := [], laidByText := true, laidKinds := [.data, .data, .data], laidTests := true, laidLooks := .later }
def ParentEvilCardSaid : Prop := Claim7.holds Tryz.pinned (.plain (OpenSpec.ofChange parentEvilSpec)) parentEvilCard

/-- THE TIED CARD OF 'seedcornlaw47.KitEvil'. -/
def kitEvilCard : Claim7 := { stood := { row := kitEvilRow, standIns := [], harness := (true, "9af948d861266ff3bd089b78e4c22ef22adc0b2f68b23f2cfba810a7da85b25a"), looks := true }, kinds := [], alts := [], laidByText := true, laidKinds := [.data, .data, .data], laidTests := true, laidLooks := .later }
def KitEvilCardSaid : Prop := Claim7.holds Tryz.pinned (.plain (OpenSpec.ofChange kitEvilSpec)) kitEvilCard

/-- THE TIED CARD OF 'seedcornlaw48.TwiceElse'. -/
def twiceElseCard : Claim7 := { stood := { row := twiceElseRow, standIns := [], harness := (true, "9af948d861266ff3bd089b78e4c22ef22adc0b2f68b23f2cfba810a7da85b25a"), looks := true }, kinds := [], alts := [], laidByText := true, laidKinds := [.data, .data, .data, .data, .data, .data], laidTests := true, laidLooks := .later }
def TwiceElseCardSaid : Prop := Claim7.holds Tryz.pinned (.plain (OpenSpec.ofChange twiceElseSpec)) twiceElseCard

/-- THE SECOND FORM's CARD OF 'seedcornlaw46.ParentEvil'. -/
def parentEvilUptoCard : Claim7 := { stood := { row := parentEvilUptoRow, standIns := [], harness := (true, "9af948d861266ff3bd089b78e4c22ef22adc0b2f68b23f2cfba810a7da85b25a"), looks := true }, kinds := [], alts := [], laidByText := true, laidKinds := [.data, .data, .data], laidTests := true, laidLooks := .later }
def ParentEvilUptoCardSaid : Prop := Claim7.holds Tryz.pinned (.plain (OpenSpec.upto parentEvilSpec)) parentEvilUptoCard

/-- THE SECOND FORM's CARD OF 'seedcornlaw47.KitEvil'. -/
def kitEvilUptoCard : Claim7 := { stood := { row := kitEvilUptoRow, standIns := [], harness := (true, "9af948d861266ff3bd089b78e4c22ef22adc0b2f68b23f2cfba810a7da85b25a"), looks := true }, kinds := [], alts := [], laidByText := true, laidKinds := [.data, .data, .data], laidTests := true, laidLooks := .later }
def KitEvilUptoCardSaid : Prop := Claim7.holds Tryz.pinned (.plain (OpenSpec.upto kitEvilSpec)) kitEvilUptoCard

/-- THE SECOND FORM's CARD OF 'seedcornlaw48.TwiceElse'. -/
def twiceElseUptoCard : Claim7 := { stood := { row := twiceElseUptoRow, standIns := [], harness := (true, "9af948d861266ff3bd089b78e4c22ef22adc0b2f68b23f2cfba810a7da85b25a"), looks := true }, kinds := [], alts := [], laidByText := true, laidKinds := [.data, .data, .data, .data, .data, .data], laidTests := true, laidLooks := .later }
def TwiceElseUptoCardSaid : Prop := Claim7.holds Tryz.pinned (.plain (OpenSpec.upto twiceElseSpec)) twiceElseUptoCard
end Rows
end Go.Proofs.YtpmoibjpjlhcgaaGreatDoor
