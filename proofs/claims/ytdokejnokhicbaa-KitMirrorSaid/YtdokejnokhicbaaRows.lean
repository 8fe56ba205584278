/-
  No cell of these rows narrows 'for every input' (looked for: loops, veiled, ifaces, maps, wideKeys, modest, calm, conditions, laid).
  DERIVED. THE GIVEN ROWS OF THIS SEAT. 4 by the template 'for every input the law returns true; each argument reads behind the call as it read before'; 0 by the template 'total and deterministic' (their statements: YtdokejnokhicbaaTotals.lean).
  GIVEN WITH THE SEED: the statements are not yours to turn. If you find one false, say at which input.
  Laid BY PROGRAM, IN A SANDBOX (cutbox-rows.mjs): the forced cells as the released guide's own fill.sh prints them over the translation a3373ae5e2d46991… (all of the seat's roots in one cut). By AI agents, Wed Nov 11 2026. No macro, syntax, notation, axiom, sorry.
-/
import Derived.Test.YtdokejnokhicbaaChecked
import GoSem.Claim
import GoSem.ClaimJoined
import GoSem.ClaimMapViews
import Derived.JoinedTies
import Derived.KernelRfl
namespace Go.Proofs.Ytdokejnokhicbaa
/- THE CELL 'sum', in the pinned program and in every row, IS THE sha256 OF THE DUMP (.gsa) THAT YtdokejnokhicbaaProg.lean LOADS. Nothing in Lean hashes anything: it is a label: what it is worth is what the hold of that sum in a sandbox is worth. -/
noncomputable def Try.pinned : Pinned := { name := "ytdokejnokhicbaa", sum := "a3373ae5e2d46991a7c19cfe06d4af4b254930a47285e68365938d1b3b871108", checked := Try.checked }
namespace Rows
def none {H : Type} : Left H := { results := [], args := [] }

/-- 'seedcornlaw47.KitMirror': WHATEVER THE INPUT: true; the input reads as it did. -/
def kitMirrorSpec : ChangeSpec := { name := "kitMirror", fn := fun _ => fun
  | [d1, d2] => { results := [.lit (.bool true)], args := [d1, d2] }
  | _ => none }
def kitMirrorRow : OpenClaim := { program := "ytdokejnokhicbaa", sum := "a3373ae5e2d46991a7c19cfe06d4af4b254930a47285e68365938d1b3b871108", func := "seedcorn/seedcornlaw47.KitMirror", spec := "kitMirror", unfollowed := true, recurses := true, apart := false }
def KitMirrorSaid : Prop := kitMirrorRow.holds Try.pinned (OpenSpec.ofChange kitMirrorSpec)

/-- ITS FALSE NEIGHBOUR: 'it returns false'. Refute it at one input. -/
def kitMirrorWrong : ChangeSpec := { name := "kitMirror", fn := fun _ => fun
  | [d1, d2] => { results := [.lit (.bool false)], args := [d1, d2] }
  | _ => none }
def KitMirrorWrongFalsely : Prop := kitMirrorRow.holds Try.pinned (OpenSpec.ofChange kitMirrorWrong)

/-- 'seedcornlaw47.KitMirrors': WHATEVER THE INPUT: true; the input reads as it did. -/
def kitMirrorsSpec : ChangeSpec := { name := "kitMirrors", fn := fun _ => fun
  | [d1, d2, d3] => { results := [.lit (.bool true)], args := [d1, d2, d3] }
  | _ => none }
def kitMirrorsRow : OpenClaim := { program := "ytdokejnokhicbaa", sum := "a3373ae5e2d46991a7c19cfe06d4af4b254930a47285e68365938d1b3b871108", func := "seedcorn/seedcornlaw47.KitMirrors", spec := "kitMirrors", unfollowed := true, recurses := true, apart := false }
def KitMirrorsSaid : Prop := kitMirrorsRow.holds Try.pinned (OpenSpec.ofChange kitMirrorsSpec)

/-- ITS FALSE NEIGHBOUR: 'it returns false'. Refute it at one input. -/
def kitMirrorsWrong : ChangeSpec := { name := "kitMirrors", fn := fun _ => fun
  | [d1, d2, d3] => { results := [.lit (.bool false)], args := [d1, d2, d3] }
  | _ => none }
def KitMirrorsWrongFalsely : Prop := kitMirrorsRow.holds Try.pinned (OpenSpec.ofChange kitMirrorsWrong)

/-- 'seedcornlaw47.KitPlant': WHATEVER THE INPUT: true; the input reads as it did. -/
def kitPlantSpec : ChangeSpec := { name := "kitPlant", fn := fun _ => fun
  | [d1, d2, d3] => { results := [.lit (.bool true)], args := [d1, d2, d3] }
  | _ => none }
def kitPlantRow : OpenClaim := { program := "ytdokejnokhicbaa", sum := "a3373ae5e2d46991a7c19cfe06d4af4b254930a47285e68365938d1b3b871108", func := "seedcorn/seedcornlaw47.KitPlant", spec := "kitPlant", unfollowed := true, recurses := true, apart := false }
def KitPlantSaid : Prop := kitPlantRow.holds Try.pinned (OpenSpec.ofChange kitPlantSpec)

/-- ITS FALSE NEIGHBOUR: 'it returns false'. Refute it at one input. -/
def kitPlantWrong : ChangeSpec := { name := "kitPlant", fn := fun _ => fun
  | [d1, d2, d3] => { results := [.lit (.bool false)], args := [d1, d2, d3] }
  | _ => none }
def KitPlantWrongFalsely : Prop := kitPlantRow.holds Try.pinned (OpenSpec.ofChange kitPlantWrong)

/-- 'seedcornlaw47.KitCut': WHATEVER THE INPUT: true; the input reads as it did. -/
def kitCutSpec : ChangeSpec := { name := "kitCut", fn := fun _ => fun
  | [d1, d2] => { results := [.lit (.bool true)], args := [d1, d2] }
  | _ => none }
def kitCutRow : OpenClaim := { program := "ytdokejnokhicbaa", sum := "a3373ae5e2d46991a7c19cfe06d4af4b254930a47285e68365938d1b3b871108", func := "seedcorn/seedcornlaw47.KitCut", spec := "kitCut", unfollowed := true, recurses := true, apart := false }
def KitCutSaid : Prop := kitCutRow.holds Try.pinned (OpenSpec.ofChange kitCutSpec)

/-- ITS FALSE NEIGHBOUR: 'it returns false'. Refute it at one input. -/
def kitCutWrong : ChangeSpec := { name := "kitCut", fn := fun _ => fun
  | [d1, d2] => { results := [.lit (.bool false)], args := [d1, d2] }
  | _ => none }
def KitCutWrongFalsely : Prop := kitCutRow.holds Try.pinned (OpenSpec.ofChange kitCutWrong)

/- THE SECOND FORM. 'bulk': how many values and letters a reading holds, each counted each time it is reached (what is shared counts as often as it is met; a slice's spare places count too). A statement '..UptoSaid' is the law's where the arguments, and the package variables that the reading takes, are together of bulk at most 1048576: NARROWER than '..Said'. Prove '..Said' where nothing that the law and all that it calls make is longer than what came in: it says more and counts as full. Else prove '..UptoSaid'. A law counts once. -/
mutual
def uptoBulk {H : Type} : DataW H → Nat
  | .lit (.string bytes) => bytes.length + 1
  | .lit _ => 1
  | .nil => 1
  | .ptr d => uptoBulk d + 1
  | .slice elems spare => uptoBulkAll elems + uptoBulkAll spare + 1
  | .agg parts => uptoBulkAll parts + 1
  | .iface _ d => uptoBulk d + 1
  | .map entries => uptoBulkEntries entries + 1
  | .held _ => 1
def uptoBulkAll {H : Type} : List (DataW H) → Nat
  | [] => 0
  | d :: r => uptoBulk d + uptoBulkAll r
def uptoBulkEntries {H : Type} : List (Lit × DataW H) → Nat
  | [] => 0
  | x :: r => uptoBulkEntry x + uptoBulkEntries r
def uptoBulkEntry {H : Type} : Lit × DataW H → Nat
  | (.string bytes, d) => bytes.length + uptoBulk d + 1
  | (_, d) => uptoBulk d + 1
 end
def uptoSmall : (H : Type) → List (DataW H) → Bool := fun _ ds => decide (uptoBulkAll ds ≤ 1048576)
def OpenSpec.upto (s : _root_.Go.ChangeSpec) : _root_.Go.OpenSpec := { _root_.Go.OpenSpec.ofChange s with cond := some uptoSmall }

/-- 'seedcornlaw47.KitMirror', WHERE WHAT IT READS IS OF BULK AT MOST 1048576: true; the input reads as it did. -/
def kitMirrorUptoRow : OpenClaim := { program := "ytdokejnokhicbaa", sum := "a3373ae5e2d46991a7c19cfe06d4af4b254930a47285e68365938d1b3b871108", func := "seedcorn/seedcornlaw47.KitMirror", spec := "kitMirror", unfollowed := true, recurses := true, apart := false, narrowed := true }
def KitMirrorUptoSaid : Prop := kitMirrorUptoRow.holds Try.pinned (OpenSpec.upto kitMirrorSpec)

/-- 'seedcornlaw47.KitMirrors', WHERE WHAT IT READS IS OF BULK AT MOST 1048576: true; the input reads as it did. -/
def kitMirrorsUptoRow : OpenClaim := { program := "ytdokejnokhicbaa", sum := "a3373ae5e2d46991a7c19cfe06d4af4b254930a47285e68365938d1b3b871108", func := "seedcorn/seedcornlaw47.KitMirrors", spec := "kitMirrors", unfollowed := true, recurses := true, apart := false, narrowed := true }
def KitMirrorsUptoSaid : Prop := kitMirrorsUptoRow.holds Try.pinned (OpenSpec.upto kitMirrorsSpec)

/-- 'seedcornlaw47.KitPlant', WHERE WHAT IT READS IS OF BULK AT MOST 1048576: true; the input reads as it did. -/
def kitPlantUptoRow : OpenClaim := { program := "ytdokejnokhicbaa", sum := "a3373ae5e2d46991a7c19cfe06d4af4b254930a47285e68365938d1b3b871108", func := "seedcorn/seedcornlaw47.KitPlant", spec := "kitPlant", unfollowed := true, recurses := true, apart := false, narrowed := true }
def KitPlantUptoSaid : Prop := kitPlantUptoRow.holds Try.pinned (OpenSpec.upto kitPlantSpec)

/-- 'seedcornlaw47.KitCut', WHERE WHAT IT READS IS OF BULK AT MOST 1048576: true; the input reads as it did. -/
def kitCutUptoRow : OpenClaim := { program := "ytdokejnokhicbaa", sum := "a3373ae5e2d46991a7c19cfe06d4af4b254930a47285e68365938d1b3b871108", func := "seedcorn/seedcornlaw47.KitCut", spec := "kitCut", unfollowed := true, recurses := true, apart := false, narrowed := true }
def KitCutUptoSaid : Prop := kitCutUptoRow.holds Try.pinned (OpenSpec.upto kitCutSpec)

end Rows
end Go.Proofs.Ytdokejnokhicbaa
