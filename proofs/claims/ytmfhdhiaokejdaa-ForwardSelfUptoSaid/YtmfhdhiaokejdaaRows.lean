/-
  No cell of these rows narrows 'for every input' (looked for: loops, veiled, ifaces, maps, wideKeys, modest, calm, conditions, laid).
  DERIVED. THE GIVEN ROWS OF THIS SEAT. 8 by the template 'for every input the law returns true; each argument reads behind the call as it read before'; 0 by the template 'total and deterministic' (their statements: YtmfhdhiaokejdaaTotals.lean).
  GIVEN WITH THE SEED: the statements are not yours to turn. If you find one false, say at which input.
  Laid BY PROGRAM, IN A SANDBOX (cutbox-rows.mjs): the forced cells as the released guide's own fill.sh prints them over the translation c181f0ac02aa6bb2… (all of the seat's roots in one cut). By AI agents, Wed Nov 11 2026. No macro, syntax, notation, axiom, sorry.
-/
import Derived.Test.YtmfhdhiaokejdaaChecked
import GoSem.Claim
import GoSem.ClaimJoined
import GoSem.ClaimMapViews
import Derived.JoinedTies
import Derived.KernelRfl
namespace Go.Proofs.Ytmfhdhiaokejdaa
/- THE CELL 'sum', in the pinned program and in every row, IS THE sha256 OF THE DUMP (.gsa) THAT YtmfhdhiaokejdaaProg.lean LOADS. Nothing in Lean hashes anything: it is a label: what it is worth is what the hold of that sum in a sandbox is worth. -/
noncomputable def Try.pinned : Pinned := { name := "ytmfhdhiaokejdaa", sum := "c181f0ac02aa6bb2979be01236a7b46d19b04b066d8363bb8db31dd2b713dd71", checked := Try.checked }
namespace Rows
def none {H : Type} : Left H := { results := [], args := [] }

/-- 'seedcornlaw31.ForwardOf': WHATEVER THE INPUT: true; the input reads as it did. -/
def forwardOfSpec : ChangeSpec := { name := "forwardOf", fn := fun _ => fun
  | [d] => { results := [.lit (.bool true)], args := [d] }
  | _ => none }
def forwardOfRow : OpenClaim := { program := "ytmfhdhiaokejdaa", sum := "c181f0ac02aa6bb2979be01236a7b46d19b04b066d8363bb8db31dd2b713dd71", func := "seedcorn/seedcornlaw31.ForwardOf", spec := "forwardOf", apart := false }
def ForwardOfSaid : Prop := forwardOfRow.holds Try.pinned (OpenSpec.ofChange forwardOfSpec)

/-- ITS FALSE NEIGHBOUR: 'it returns false'. Refute it at one input. -/
def forwardOfWrong : ChangeSpec := { name := "forwardOf", fn := fun _ => fun
  | [d] => { results := [.lit (.bool false)], args := [d] }
  | _ => none }
def ForwardOfWrongFalsely : Prop := forwardOfRow.holds Try.pinned (OpenSpec.ofChange forwardOfWrong)

/-- 'seedcornlaw31.ForwardShapes': WHATEVER THE INPUT: true; the input reads as it did. -/
def forwardShapesSpec : ChangeSpec := { name := "forwardShapes", fn := fun _ => fun
  | [d] => { results := [.lit (.bool true)], args := [d] }
  | _ => none }
def forwardShapesRow : OpenClaim := { program := "ytmfhdhiaokejdaa", sum := "c181f0ac02aa6bb2979be01236a7b46d19b04b066d8363bb8db31dd2b713dd71", func := "seedcorn/seedcornlaw31.ForwardShapes", spec := "forwardShapes", apart := false }
def ForwardShapesSaid : Prop := forwardShapesRow.holds Try.pinned (OpenSpec.ofChange forwardShapesSpec)

/-- ITS FALSE NEIGHBOUR: 'it returns false'. Refute it at one input. -/
def forwardShapesWrong : ChangeSpec := { name := "forwardShapes", fn := fun _ => fun
  | [d] => { results := [.lit (.bool false)], args := [d] }
  | _ => none }
def ForwardShapesWrongFalsely : Prop := forwardShapesRow.holds Try.pinned (OpenSpec.ofChange forwardShapesWrong)

/-- 'seedcornlaw31.ForwardDone': WHATEVER THE INPUT: true; the input reads as it did. -/
def forwardDoneSpec : ChangeSpec := { name := "forwardDone", fn := fun _ => fun
  | [d] => { results := [.lit (.bool true)], args := [d] }
  | _ => none }
def forwardDoneRow : OpenClaim := { program := "ytmfhdhiaokejdaa", sum := "c181f0ac02aa6bb2979be01236a7b46d19b04b066d8363bb8db31dd2b713dd71", func := "seedcorn/seedcornlaw31.ForwardDone", spec := "forwardDone", apart := false }
def ForwardDoneSaid : Prop := forwardDoneRow.holds Try.pinned (OpenSpec.ofChange forwardDoneSpec)

/-- ITS FALSE NEIGHBOUR: 'it returns false'. Refute it at one input. -/
def forwardDoneWrong : ChangeSpec := { name := "forwardDone", fn := fun _ => fun
  | [d] => { results := [.lit (.bool false)], args := [d] }
  | _ => none }
def ForwardDoneWrongFalsely : Prop := forwardDoneRow.holds Try.pinned (OpenSpec.ofChange forwardDoneWrong)

/-- 'seedcornlaw31.ForwardMeans': WHATEVER THE INPUT: true; the input reads as it did. -/
def forwardMeansSpec : ChangeSpec := { name := "forwardMeans", fn := fun _ => fun
  | [d1, d2, d3] => { results := [.lit (.bool true)], args := [d1, d2, d3] }
  | _ => none }
def forwardMeansRow : OpenClaim := { program := "ytmfhdhiaokejdaa", sum := "c181f0ac02aa6bb2979be01236a7b46d19b04b066d8363bb8db31dd2b713dd71", func := "seedcorn/seedcornlaw31.ForwardMeans", spec := "forwardMeans", recurses := true, apart := false }
def ForwardMeansSaid : Prop := forwardMeansRow.holds Try.pinned (OpenSpec.ofChange forwardMeansSpec)

/-- ITS FALSE NEIGHBOUR: 'it returns false'. Refute it at one input. -/
def forwardMeansWrong : ChangeSpec := { name := "forwardMeans", fn := fun _ => fun
  | [d1, d2, d3] => { results := [.lit (.bool false)], args := [d1, d2, d3] }
  | _ => none }
def ForwardMeansWrongFalsely : Prop := forwardMeansRow.holds Try.pinned (OpenSpec.ofChange forwardMeansWrong)

/-- 'seedcornlaw31.ForwardTwice': WHATEVER THE INPUT: true; the input reads as it did. -/
def forwardTwiceSpec : ChangeSpec := { name := "forwardTwice", fn := fun _ => fun
  | [d] => { results := [.lit (.bool true)], args := [d] }
  | _ => none }
def forwardTwiceRow : OpenClaim := { program := "ytmfhdhiaokejdaa", sum := "c181f0ac02aa6bb2979be01236a7b46d19b04b066d8363bb8db31dd2b713dd71", func := "seedcorn/seedcornlaw31.ForwardTwice", spec := "forwardTwice", apart := false }
def ForwardTwiceSaid : Prop := forwardTwiceRow.holds Try.pinned (OpenSpec.ofChange forwardTwiceSpec)

/-- ITS FALSE NEIGHBOUR: 'it returns false'. Refute it at one input. -/
def forwardTwiceWrong : ChangeSpec := { name := "forwardTwice", fn := fun _ => fun
  | [d] => { results := [.lit (.bool false)], args := [d] }
  | _ => none }
def ForwardTwiceWrongFalsely : Prop := forwardTwiceRow.holds Try.pinned (OpenSpec.ofChange forwardTwiceWrong)

/-- 'seedcornlaw31.ForwardChains': WHATEVER THE INPUT: true; the input reads as it did. -/
def forwardChainsSpec : ChangeSpec := { name := "forwardChains", fn := fun _ => fun
  | [d1, d2] => { results := [.lit (.bool true)], args := [d1, d2] }
  | _ => none }
def forwardChainsRow : OpenClaim := { program := "ytmfhdhiaokejdaa", sum := "c181f0ac02aa6bb2979be01236a7b46d19b04b066d8363bb8db31dd2b713dd71", func := "seedcorn/seedcornlaw31.ForwardChains", spec := "forwardChains", recurses := true, apart := false }
def ForwardChainsSaid : Prop := forwardChainsRow.holds Try.pinned (OpenSpec.ofChange forwardChainsSpec)

/-- ITS FALSE NEIGHBOUR: 'it returns false'. Refute it at one input. -/
def forwardChainsWrong : ChangeSpec := { name := "forwardChains", fn := fun _ => fun
  | [d1, d2] => { results := [.lit (.bool false)], args := [d1, d2] }
  | _ => none }
def ForwardChainsWrongFalsely : Prop := forwardChainsRow.holds Try.pinned (OpenSpec.ofChange forwardChainsWrong)

/-- 'seedcornlaw31.ForwardSelf': WHATEVER THE INPUT: true; the input reads as it did. -/
def forwardSelfSpec : ChangeSpec := { name := "forwardSelf", fn := fun _ => fun
  | [d1, d2, d3] => { results := [.lit (.bool true)], args := [d1, d2, d3] }
  | _ => none }
def forwardSelfRow : OpenClaim := { program := "ytmfhdhiaokejdaa", sum := "c181f0ac02aa6bb2979be01236a7b46d19b04b066d8363bb8db31dd2b713dd71", func := "seedcorn/seedcornlaw31.ForwardSelf", spec := "forwardSelf", recurses := true, apart := false }
def ForwardSelfSaid : Prop := forwardSelfRow.holds Try.pinned (OpenSpec.ofChange forwardSelfSpec)

/-- ITS FALSE NEIGHBOUR: 'it returns false'. Refute it at one input. -/
def forwardSelfWrong : ChangeSpec := { name := "forwardSelf", fn := fun _ => fun
  | [d1, d2, d3] => { results := [.lit (.bool false)], args := [d1, d2, d3] }
  | _ => none }
def ForwardSelfWrongFalsely : Prop := forwardSelfRow.holds Try.pinned (OpenSpec.ofChange forwardSelfWrong)

/-- 'seedcornlaw31.ForwardSwaps': WHATEVER THE INPUT: true; the input reads as it did. -/
def forwardSwapsSpec : ChangeSpec := { name := "forwardSwaps", fn := fun _ => fun
  | [d1, d2] => { results := [.lit (.bool true)], args := [d1, d2] }
  | _ => none }
def forwardSwapsRow : OpenClaim := { program := "ytmfhdhiaokejdaa", sum := "c181f0ac02aa6bb2979be01236a7b46d19b04b066d8363bb8db31dd2b713dd71", func := "seedcorn/seedcornlaw31.ForwardSwaps", spec := "forwardSwaps", recurses := true, apart := false }
def ForwardSwapsSaid : Prop := forwardSwapsRow.holds Try.pinned (OpenSpec.ofChange forwardSwapsSpec)

/-- ITS FALSE NEIGHBOUR: 'it returns false'. Refute it at one input. -/
def forwardSwapsWrong : ChangeSpec := { name := "forwardSwaps", fn := fun _ => fun
  | [d1, d2] => { results := [.lit (.bool false)], args := [d1, d2] }
  | _ => none }
def ForwardSwapsWrongFalsely : Prop := forwardSwapsRow.holds Try.pinned (OpenSpec.ofChange forwardSwapsWrong)

/- THE SECOND FORM. 'bulk': how many values and letters a reading holds, each counted each time it is reached (what is shared counts as often as it is met; a slice's spare places count too). A statement '..UptoSaid' is the law's where the arguments, and the package variables that the reading takes, are together of bulk at most 1048576: NARROWER than '..Said'. Prove '..Said' where nothing that the law and all that it calls make is longer than what came in: it says more and counts as full. Else prove '..UptoSaid'. A law counts once. -/
mutual
def uptoBulk {H : Type} : DataW H → Nat
  | .lit (.string bytes) => bytes.length + 1
  | .lit _ => 1
  | .nil => 1
  | .ptr d => uptoBulk d + 1
  | .slice elems spare => uptoBulkAll elems + uptoBulkAll spare + 1
  | .agg parts => uptoBulkAll parts + 1
  | .iface _ d => uptoBulk d + 1
  | .map entries => uptoBulkEntries entries + 1
  | .held _ => 1
def uptoBulkAll {H : Type} : List (DataW H) → Nat
  | [] => 0
  | d :: r => uptoBulk d + uptoBulkAll r
def uptoBulkEntries {H : Type} : List (Lit × DataW H) → Nat
  | [] => 0
  | x :: r => uptoBulkEntry x + uptoBulkEntries r
def uptoBulkEntry {H : Type} : Lit × DataW H → Nat
  | (.string bytes, d) => bytes.length + uptoBulk d + 1
  | (_, d) => uptoBulk d + 1
 end
def uptoSmall : (H : Type) → List (DataW H) → Bool := fun _ ds => decide (uptoBulkAll ds ≤ 1048576)
def OpenSpec.upto (s : _root_.Go.ChangeSpec) : _root_.Go.OpenSpec := { _root_.Go.OpenSpec.ofChange s with cond := some uptoSmall }

/-- 'seedcornlaw31.ForwardOf', WHERE WHAT IT READS IS OF BULK AT MOST 1048576: true; the input reads as it did. -/
def forwardOfUptoRow : OpenClaim := { program := "ytmfhdhiaokejdaa", sum := "c181f0ac02aa6bb2979be01236a7b46d19b04b066d8363bb8db31dd2b713dd71", func := "seedcorn/seedcornlaw31.ForwardOf", spec := "forwardOf", apart := false, narrowed := true }
def ForwardOfUptoSaid : Prop := forwardOfUptoRow.holds Try.pinned (OpenSpec.upto forwardOfSpec)

/-- 'seedcornlaw31.ForwardShapes', WHERE WHAT IT READS IS OF BULK AT MOST 1048576: true; the input reads as it did. -/
def forwardShapesUptoRow : OpenClaim := { program := "ytmfhdhiaokejdaa", sum := "c181f0ac02aa6bb2979be01236a7b46d19b04b066d8363bb8db31dd2b713dd71", func := "seedcorn/seedcornlaw31.ForwardShapes", spec := "forwardShapes", apart := false, narrowed := true }
def ForwardShapesUptoSaid : Prop := forwardShapesUptoRow.holds Try.pinned (OpenSpec.upto forwardShapesSpec)

/-- 'seedcornlaw31.ForwardDone', WHERE WHAT IT READS IS OF BULK AT MOST 1048576: true; the input reads as it did. -/
def forwardDoneUptoRow : OpenClaim := { program := "ytmfhdhiaokejdaa", sum := "c181f0ac02aa6bb2979be01236a7b46d19b04b066d8363bb8db31dd2b713dd71", func := "seedcorn/seedcornlaw31.ForwardDone", spec := "forwardDone", apart := false, narrowed := true }
def ForwardDoneUptoSaid : Prop := forwardDoneUptoRow.holds Try.pinned (OpenSpec.upto forwardDoneSpec)

/-- 'seedcornlaw31.ForwardMeans', WHERE WHAT IT READS IS OF BULK AT MOST 1048576: true; the input reads as it did. -/
def forwardMeansUptoRow : OpenClaim := { program := "ytmfhdhiaokejdaa", sum := "c181f0ac02aa6bb2979be01236a7b46d19b04b066d8363bb8db31dd2b713dd71", func := "seedcorn/seedcornlaw31.ForwardMeans", spec := "forwardMeans", recurses := true, apart := false, narrowed := true }
def ForwardMeansUptoSaid : Prop := forwardMeansUptoRow.holds Try.pinned (OpenSpec.upto forwardMeansSpec)

/-- 'seedcornlaw31.ForwardTwice', WHERE WHAT IT READS IS OF BULK AT MOST 1048576: true; the input reads as it did. -/
def forwardTwiceUptoRow : OpenClaim := { program := "ytmfhdhiaokejdaa", sum := "c181f0ac02aa6bb2979be01236a7b46d19b04b066d8363bb8db31dd2b713dd71", func := "seedcorn/seedcornlaw31.ForwardTwice", spec := "forwardTwice", apart := false, narrowed := true }
def ForwardTwiceUptoSaid : Prop := forwardTwiceUptoRow.holds Try.pinned (OpenSpec.upto forwardTwiceSpec)

/-- 'seedcornlaw31.ForwardChains', WHERE WHAT IT READS IS OF BULK AT MOST 1048576: true; the input reads as it did. -/
def forwardChainsUptoRow : OpenClaim := { program := "ytmfhdhiaokejdaa", sum := "c181f0ac02aa6bb2979be01236a7b46d19b04b066d8363bb8db31dd2b713dd71", func := "seedcorn/seedcornlaw31.ForwardChains", spec := "forwardChains", recurses := true, apart := false, narrowed := true }
def ForwardChainsUptoSaid : Prop := forwardChainsUptoRow.holds Try.pinned (OpenSpec.upto forwardChainsSpec)

/-- 'seedcornlaw31.ForwardSelf', WHERE WHAT IT READS IS OF BULK AT MOST 1048576: true; the input reads as it did. -/
def forwardSelfUptoRow : OpenClaim := { program := "ytmfhdhiaokejdaa", sum := "c181f0ac02aa6bb2979be01236a7b46d19b04b066d8363bb8db31dd2b713dd71", func := "seedcorn/seedcornlaw31.ForwardSelf", spec := "forwardSelf", recurses := true, apart := false, narrowed := true }
def ForwardSelfUptoSaid : Prop := forwardSelfUptoRow.holds Try.pinned (OpenSpec.upto forwardSelfSpec)

/-- 'seedcornlaw31.ForwardSwaps', WHERE WHAT IT READS IS OF BULK AT MOST 1048576: true; the input reads as it did. -/
def forwardSwapsUptoRow : OpenClaim := { program := "ytmfhdhiaokejdaa", sum := "c181f0ac02aa6bb2979be01236a7b46d19b04b066d8363bb8db31dd2b713dd71", func := "seedcorn/seedcornlaw31.ForwardSwaps", spec := "forwardSwaps", recurses := true, apart := false, narrowed := true }
def ForwardSwapsUptoSaid : Prop := forwardSwapsUptoRow.holds Try.pinned (OpenSpec.upto forwardSwapsSpec)

end Rows
end Go.Proofs.Ytmfhdhiaokejdaa
