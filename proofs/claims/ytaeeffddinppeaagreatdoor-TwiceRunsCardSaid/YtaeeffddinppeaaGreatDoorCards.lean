/-
  DERIVED. GIVEN WITH THE SEED: THE CARDS: each row of YtaeeffddinppeaaGreatDoorRows.lean that lists a variable, with what it lists TIED to the program's text (the seventh form; the later family's looks); each row that meets fmt, with fmt's text TOLD by the authors' own Lean function (tested against real Go, not proved from fmt's source: count such statements apart). THE CARD IS WHAT COUNTS. Prove the row's statement (the work); the ties are given (YtaeeffddinppeaaGreatDoorTie.lean); close each card by the builder's one call (the guide's Derived/Test/ToyasCard.lean, 'card_holds'). Laid BY PROGRAM, IN A SANDBOX (cutbox-door.mjs). By AI agents, Wed Nov 11 2026. No macro, syntax, notation, axiom, sorry.
-/
import Derived.Test.YtaeeffddinppeaaGreatDoorRows
import GoSem.ClaimSeven
namespace Go.Proofs.YtaeeffddinppeaaGreatDoor
namespace Rows

/-- THE TIED CARD OF 'seedcornlaw47.KitChild'. -/
def kitChildCard : Claim7 := { stood := { row := kitChildRow, standIns := [], harness := (true, "3a00eeaf6b30a543969c116a1988685a773e6937a19fea5e69326bc9ceb0c699"), looks := true }, kinds := [], alts := [], laidByText := true, laidKinds := [.data, .data, .data], laidTests := true, laidLooks := .later }
def KitChildCardSaid : Prop := Claim7.holds Tryz.pinned (.plain (OpenSpec.ofChange kitChildSpec)) kitChildCard

/-- THE TIED CARD OF 'seedcornlaw47.KitEvil'. -/
def kitEvilCard : Claim7 := { stood := { row := kitEvilRow, standIns := [], harness := (true, "3a00eeaf6b30a543969c116a1988685a773e6937a19fea5e69326bc9ceb0c699"), looks := true }, kinds := [], alts := [], laidByText := true, laidKinds := [.data, .data, .data], laidTests := true, laidLooks := .later }
def KitEvilCardSaid : Prop := Claim7.holds Tryz.pinned (.plain (OpenSpec.ofChange kitEvilSpec)) kitEvilCard

/-- THE TIED CARD OF 'seedcornlaw48.TwiceLeague'. -/
def twiceLeagueCard : Claim7 := { stood := { row := twiceLeagueRow, standIns := [], harness := (true, "3a00eeaf6b30a543969c116a1988685a773e6937a19fea5e69326bc9ceb0c699"), looks := true }, kinds := [], alts := [], laidByText := true, laidKinds := [.data, .data, .data, .data, .data, .data], laidTests := true, laidLooks := .later }
def TwiceLeagueCardSaid : Prop := Claim7.holds Tryz.pinned (.plain (OpenSpec.ofChange twiceLeagueSpec)) twiceLeagueCard

/-- THE TIED CARD OF 'seedcornlaw48.TwiceRuns'. -/
def twiceRunsCard : Claim7 := { stood := { row := twiceRunsRow, standIns := [], harness := (true, "3a00eeaf6b30a543969c116a1988685a773e6937a19fea5e69326bc9ceb0c699"), looks := true }, kinds := [], alts := [], laidByText := true, laidKinds := [.data, .data, .data, .data, .data, .data], laidTests := true, laidLooks := .later }
def TwiceRunsCardSaid : Prop := Claim7.holds Tryz.pinned (.plain (OpenSpec.ofChange twiceRunsSpec)) twiceRunsCard

/-- THE TIED CARD OF 'seedcornlaw48.TwiceFixes'. -/
def twiceFixesCard : Claim7 := { stood := { row := twiceFixesRow, standIns := [], harness := (true, "3a00eeaf6b30a543969c116a1988685a773e6937a19fea5e69326bc9ceb0c699"), looks := true }, kinds := [], alts := [], laidByText := true, laidKinds := [.data, .data, .data, .data, .data, .data], laidTests := true, laidLooks := .later }
def TwiceFixesCardSaid : Prop := Claim7.holds Tryz.pinned (.plain (OpenSpec.ofChange twiceFixesSpec)) twiceFixesCard

/-- THE TIED CARD OF 'seedcornlaw48.TwiceTurned'. -/
def twiceTurnedCard : Claim7 := { stood := { row := twiceTurnedRow, standIns := [], harness := (true, "3a00eeaf6b30a543969c116a1988685a773e6937a19fea5e69326bc9ceb0c699"), looks := true }, kinds := [], alts := [], laidByText := true, laidKinds := [.data, .data, .data, .data, .data, .data], laidTests := true, laidLooks := .later }
def TwiceTurnedCardSaid : Prop := Claim7.holds Tryz.pinned (.plain (OpenSpec.ofChange twiceTurnedSpec)) twiceTurnedCard

/-- THE TIED CARD OF 'seedcornlaw48.TwiceOnly'. -/
def twiceOnlyCard : Claim7 := { stood := { row := twiceOnlyRow, standIns := [], harness := (true, "3a00eeaf6b30a543969c116a1988685a773e6937a19fea5e69326bc9ceb0c699"), looks := true }, kinds := [], alts := [], laidByText := true, laidKinds := [.data, .data, .data, .data, .data, .data], laidTests := true, laidLooks := .later }
def TwiceOnlyCardSaid : Prop := Claim7.holds Tryz.pinned (.plain (OpenSpec.ofChange twiceOnlySpec)) twiceOnlyCard

/-- THE TIED CARD OF 'seedcornlaw48.TwiceMore'. -/
def twiceMoreCard : Claim7 := { stood := { row := twiceMoreRow, standIns := [], harness := (true, "3a00eeaf6b30a543969c116a1988685a773e6937a19fea5e69326bc9ceb0c699"), looks := true }, kinds := [], alts := [], laidByText := true, laidKinds := [.data, .data, .data, .data, .data, .data], laidTests := true, laidLooks := .later }
def TwiceMoreCardSaid : Prop := Claim7.holds Tryz.pinned (.plain (OpenSpec.ofChange twiceMoreSpec)) twiceMoreCard

/-- THE TIED CARD OF 'seedcornlaw48.TwiceElse'. -/
def twiceElseCard : Claim7 := { stood := { row := twiceElseRow, standIns := [], harness := (true, "3a00eeaf6b30a543969c116a1988685a773e6937a19fea5e69326bc9ceb0c699"), looks := true }, kinds := [], alts := [], laidByText := true, laidKinds := [.data, .data, .data, .data, .data, .data], laidTests := true, laidLooks := .later }
def TwiceElseCardSaid : Prop := Claim7.holds Tryz.pinned (.plain (OpenSpec.ofChange twiceElseSpec)) twiceElseCard

/-- THE TIED CARD OF 'seedcornlaw49.ReleaseOf'. -/
def releaseOfCard : Claim7 := { stood := { row := releaseOfRow, standIns := [], harness := (true, "3a00eeaf6b30a543969c116a1988685a773e6937a19fea5e69326bc9ceb0c699"), looks := true }, kinds := [], alts := [], laidByText := true, laidKinds := [.data, .data, .data], laidTests := true, laidLooks := .later }
def ReleaseOfCardSaid : Prop := Claim7.holds Tryz.pinned (.plain (OpenSpec.ofChange releaseOfSpec)) releaseOfCard

/-- THE SECOND FORM's CARD OF 'seedcornlaw47.KitChild'. -/
def kitChildUptoCard : Claim7 := { stood := { row := kitChildUptoRow, standIns := [], harness := (true, "3a00eeaf6b30a543969c116a1988685a773e6937a19fea5e69326bc9ceb0c699"), looks := true }, kinds := [], alts := [], laidByText := true, laidKinds := [.data, .data, .data], laidTests := true, laidLooks := .later }
def KitChildUptoCardSaid : Prop := Claim7.holds Tryz.pinned (.plain (OpenSpec.upto kitChildSpec)) kitChildUptoCard

/-- THE SECOND FORM's CARD OF 'seedcornlaw47.KitEvil'. -/
def kitEvilUptoCard : Claim7 := { stood := { row := kitEvilUptoRow, standIns := [], harness := (true, "3a00eeaf6b30a543969c116a1988685a773e6937a19fea5e69326bc9ceb0c699"), looks := true }, kinds := [], alts := [], laidByText := true, laidKinds := [.data, .data, .data], laidTests := true, laidLooks := .later }
def KitEvilUptoCardSaid : Prop := Claim7.holds Tryz.pinned (.plain (OpenSpec.upto kitEvilSpec)) kitEvilUptoCard

/-- THE SECOND FORM's CARD OF 'seedcornlaw48.TwiceLeague'. -/
def twiceLeagueUptoCard : Claim7 := { stood := { row := twiceLeagueUptoRow, standIns := [], harness := (true, "3a00eeaf6b30a543969c116a1988685a773e6937a19fea5e69326bc9ceb0c699"), looks := true }, kinds := [], alts := [], laidByText := true, laidKinds := [.data, .data, .data, .data, .data, .data], laidTests := true, laidLooks := .later }
def TwiceLeagueUptoCardSaid : Prop := Claim7.holds Tryz.pinned (.plain (OpenSpec.upto twiceLeagueSpec)) twiceLeagueUptoCard

/-- THE SECOND FORM's CARD OF 'seedcornlaw48.TwiceRuns'. -/
def twiceRunsUptoCard : Claim7 := { stood := { row := twiceRunsUptoRow, standIns := [], harness := (true, "3a00eeaf6b30a543969c116a1988685a773e6937a19fea5e69326bc9ceb0c699"), looks := true }, kinds := [], alts := [], laidByText := true, laidKinds := [.data, .data, .data, .data, .data, .data], laidTests := true, laidLooks := .later }
def TwiceRunsUptoCardSaid : Prop := Claim7.holds Tryz.pinned (.plain (OpenSpec.upto twiceRunsSpec)) twiceRunsUptoCard

/-- THE SECOND FORM's CARD OF 'seedcornlaw48.TwiceFixes'. -/
def twiceFixesUptoCard : Claim7 := { stood := { row := twiceFixesUptoRow, standIns := [], harness := (true, "3a00eeaf6b30a543969c116a1988685a773e6937a19fea5e69326bc9ceb0c699"), looks := true }, kinds := [], alts := [], laidByText := true, laidKinds := [.data, .data, .data, .data, .data, .data], laidTests := true, laidLooks := .later }
def TwiceFixesUptoCardSaid : Prop := Claim7.holds Tryz.pinned (.plain (OpenSpec.upto twiceFixesSpec)) twiceFixesUptoCard

/-- THE SECOND FORM's CARD OF 'seedcornlaw48.TwiceTurned'. -/
def twiceTurnedUptoCard : Claim7 := { stood := { row := twiceTurnedUptoRow, standIns := [], harness := (true, "3a00eeaf6b30a543969c116a1988685a773e6937a19fea5e69326bc9ceb0c699"), looks := true }, kinds := [], alts := [], laidByText := true, laidKinds := [.data, .data, .data, .data, .data, .data], laidTests := true, laidLooks := .later }
def TwiceTurnedUptoCardSaid : Prop := Claim7.holds Tryz.pinned (.plain (OpenSpec.upto twiceTurnedSpec)) twiceTurnedUptoCard

/-- THE SECOND FORM's CARD OF 'seedcornlaw48.TwiceOnly'. -/
def twiceOnlyUptoCard : Claim7 := { stood := { row := twiceOnlyUptoRow, standIns := [], harness := (true, "3a00eeaf6b30a543969c116a1988685a773e6937a19fea5e69326bc9ceb0c699"), looks := true }, kinds := [], alts := [], laidByText := true, laidKinds := [.data, .data, .data, .data, .data, .data], laidTests := true, laidLooks := .later }
def TwiceOnlyUptoCardSaid : Prop := Claim7.holds Tryz.pinned (.plain (OpenSpec.upto twiceOnlySpec)) twiceOnlyUptoCard

/-- THE SECOND FORM's CARD OF 'seedcornlaw48.TwiceMore'. -/
def twiceMoreUptoCard : Claim7 := { stood := { row := twiceMoreUptoRow, standIns := [], harness := (true, "3a00eeaf6b30a543969c116a1988685a773e6937a19fea5e69326bc9ceb0c699"), looks := true }, kinds := [], alts := [], laidByText := true, laidKinds := [.data, .data, .data, .data, .data, .data], laidTests := true, laidLooks := .later }
def TwiceMoreUptoCardSaid : Prop := Claim7.holds Tryz.pinned (.plain (OpenSpec.upto twiceMoreSpec)) twiceMoreUptoCard

/-- THE SECOND FORM's CARD OF 'seedcornlaw48.TwiceElse'. -/
def twiceElseUptoCard : Claim7 := { stood := { row := twiceElseUptoRow, standIns := [], harness := (true, "3a00eeaf6b30a543969c116a1988685a773e6937a19fea5e69326bc9ceb0c699"), looks := true }, kinds := [], alts := [], laidByText := true, laidKinds := [.data, .data, .data, .data, .data, .data], laidTests := true, laidLooks := .later }
def TwiceElseUptoCardSaid : Prop := Claim7.holds Tryz.pinned (.plain (OpenSpec.upto twiceElseSpec)) twiceElseUptoCard

/-- THE SECOND FORM's CARD OF 'seedcornlaw49.ReleaseOf'. -/
def releaseOfUptoCard : Claim7 := { stood := { row := releaseOfUptoRow, standIns := [], harness := (true, "3a00eeaf6b30a543969c116a1988685a773e6937a19fea5e69326bc9ceb0c699"), looks := true }, kinds := [], alts := [], laidByText := true, laidKinds := [.data, .data, .data], laidTests := true, laidLooks := .later }
def ReleaseOfUptoCardSaid : Prop := Claim7.holds Tryz.pinned (.plain (OpenSpec.upto releaseOfSpec)) releaseOfUptoCard
end Rows
end Go.Proofs.YtaeeffddinppeaaGreatDoor
