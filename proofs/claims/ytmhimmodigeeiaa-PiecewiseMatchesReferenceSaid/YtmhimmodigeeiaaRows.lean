/-
  No cell of these rows narrows 'for every input' (looked for: loops, veiled, ifaces, maps, wideKeys, modest, calm, conditions, laid).
  DERIVED. THE GIVEN ROWS OF THIS SEAT. 7 by the template 'for every input the law returns true; each argument reads behind the call as it read before'; 0 by the template 'total and deterministic' (their statements: YtmhimmodigeeiaaTotals.lean).
  GIVEN WITH THE SEED: the statements are not yours to turn. If you find one false, say at which input.
  Laid BY PROGRAM, IN A SANDBOX (cutbox-rows.mjs): the forced cells as the released guide's own fill.sh prints them over the translation b69cb1bd6c9c1f58… (all of the seat's roots in one cut). By AI agents, Wed Nov 11 2026. No macro, syntax, notation, axiom, sorry.
-/
import Derived.Test.YtmhimmodigeeiaaChecked
import GoSem.Claim
import GoSem.ClaimJoined
import GoSem.ClaimMapViews
import Derived.JoinedTies
import Derived.KernelRfl
namespace Go.Proofs.Ytmhimmodigeeiaa
/- THE CELL 'sum', in the pinned program and in every row, IS THE sha256 OF THE DUMP (.gsa) THAT YtmhimmodigeeiaaProg.lean LOADS. Nothing in Lean hashes anything: it is a label: what it is worth is what the hold of that sum in a sandbox is worth. -/
noncomputable def Try.pinned : Pinned := { name := "ytmhimmodigeeiaa", sum := "b69cb1bd6c9c1f583764de1bf0ecf8ff9b2d518198fe3d22268b6b3e603e552d", checked := Try.checked }
namespace Rows
def none {H : Type} : Left H := { results := [], args := [] }

/-- 'cohousinglaw05.PiecewiseMatchesReference': WHATEVER THE INPUT: true; the input reads as it did. -/
def piecewiseMatchesReferenceSpec : ChangeSpec := { name := "piecewiseMatchesReference", fn := fun _ => fun
  | [d1, d2, d3, d4, d5] => { results := [.lit (.bool true)], args := [d1, d2, d3, d4, d5] }
  | _ => none }
def piecewiseMatchesReferenceRow : OpenClaim := { program := "ytmhimmodigeeiaa", sum := "b69cb1bd6c9c1f583764de1bf0ecf8ff9b2d518198fe3d22268b6b3e603e552d", func := "cohousing/cohousinglaw05.PiecewiseMatchesReference", spec := "piecewiseMatchesReference", unfollowed := true, recurses := true, apart := false }
def PiecewiseMatchesReferenceSaid : Prop := piecewiseMatchesReferenceRow.holds Try.pinned (OpenSpec.ofChange piecewiseMatchesReferenceSpec)

/-- ITS FALSE NEIGHBOUR: 'it returns false'. Refute it at one input. -/
def piecewiseMatchesReferenceWrong : ChangeSpec := { name := "piecewiseMatchesReference", fn := fun _ => fun
  | [d1, d2, d3, d4, d5] => { results := [.lit (.bool false)], args := [d1, d2, d3, d4, d5] }
  | _ => none }
def PiecewiseMatchesReferenceWrongFalsely : Prop := piecewiseMatchesReferenceRow.holds Try.pinned (OpenSpec.ofChange piecewiseMatchesReferenceWrong)

/-- 'cohousinglaw05.PiecewiseSums': WHATEVER THE INPUT: true; the input reads as it did. -/
def piecewiseSumsSpec : ChangeSpec := { name := "piecewiseSums", fn := fun _ => fun
  | [d1, d2, d3] => { results := [.lit (.bool true)], args := [d1, d2, d3] }
  | _ => none }
def piecewiseSumsRow : OpenClaim := { program := "ytmhimmodigeeiaa", sum := "b69cb1bd6c9c1f583764de1bf0ecf8ff9b2d518198fe3d22268b6b3e603e552d", func := "cohousing/cohousinglaw05.PiecewiseSums", spec := "piecewiseSums", unfollowed := true, recurses := true, apart := false }
def PiecewiseSumsSaid : Prop := piecewiseSumsRow.holds Try.pinned (OpenSpec.ofChange piecewiseSumsSpec)

/-- ITS FALSE NEIGHBOUR: 'it returns false'. Refute it at one input. -/
def piecewiseSumsWrong : ChangeSpec := { name := "piecewiseSums", fn := fun _ => fun
  | [d1, d2, d3] => { results := [.lit (.bool false)], args := [d1, d2, d3] }
  | _ => none }
def PiecewiseSumsWrongFalsely : Prop := piecewiseSumsRow.holds Try.pinned (OpenSpec.ofChange piecewiseSumsWrong)

/-- 'cohousinglaw05.PiecewiseLeast': WHATEVER THE INPUT: true; the input reads as it did. -/
def piecewiseLeastSpec : ChangeSpec := { name := "piecewiseLeast", fn := fun _ => fun
  | [d1, d2, d3] => { results := [.lit (.bool true)], args := [d1, d2, d3] }
  | _ => none }
def piecewiseLeastRow : OpenClaim := { program := "ytmhimmodigeeiaa", sum := "b69cb1bd6c9c1f583764de1bf0ecf8ff9b2d518198fe3d22268b6b3e603e552d", func := "cohousing/cohousinglaw05.PiecewiseLeast", spec := "piecewiseLeast", unfollowed := true, recurses := true, apart := false }
def PiecewiseLeastSaid : Prop := piecewiseLeastRow.holds Try.pinned (OpenSpec.ofChange piecewiseLeastSpec)

/-- ITS FALSE NEIGHBOUR: 'it returns false'. Refute it at one input. -/
def piecewiseLeastWrong : ChangeSpec := { name := "piecewiseLeast", fn := fun _ => fun
  | [d1, d2, d3] => { results := [.lit (.bool false)], args := [d1, d2, d3] }
  | _ => none }
def PiecewiseLeastWrongFalsely : Prop := piecewiseLeastRow.holds Try.pinned (OpenSpec.ofChange piecewiseLeastWrong)

/-- 'cohousinglaw05.PiecewiseBelow': WHATEVER THE INPUT: true; the input reads as it did. -/
def piecewiseBelowSpec : ChangeSpec := { name := "piecewiseBelow", fn := fun _ => fun
  | [d1, d2, d3, d4, d5] => { results := [.lit (.bool true)], args := [d1, d2, d3, d4, d5] }
  | _ => none }
def piecewiseBelowRow : OpenClaim := { program := "ytmhimmodigeeiaa", sum := "b69cb1bd6c9c1f583764de1bf0ecf8ff9b2d518198fe3d22268b6b3e603e552d", func := "cohousing/cohousinglaw05.PiecewiseBelow", spec := "piecewiseBelow", unfollowed := true, recurses := true, apart := false }
def PiecewiseBelowSaid : Prop := piecewiseBelowRow.holds Try.pinned (OpenSpec.ofChange piecewiseBelowSpec)

/-- ITS FALSE NEIGHBOUR: 'it returns false'. Refute it at one input. -/
def piecewiseBelowWrong : ChangeSpec := { name := "piecewiseBelow", fn := fun _ => fun
  | [d1, d2, d3, d4, d5] => { results := [.lit (.bool false)], args := [d1, d2, d3, d4, d5] }
  | _ => none }
def PiecewiseBelowWrongFalsely : Prop := piecewiseBelowRow.holds Try.pinned (OpenSpec.ofChange piecewiseBelowWrong)

/-- 'cohousinglaw05.PiecewiseOrder': WHATEVER THE INPUT: true; the input reads as it did. -/
def piecewiseOrderSpec : ChangeSpec := { name := "piecewiseOrder", fn := fun _ => fun
  | [d1, d2, d3] => { results := [.lit (.bool true)], args := [d1, d2, d3] }
  | _ => none }
def piecewiseOrderRow : OpenClaim := { program := "ytmhimmodigeeiaa", sum := "b69cb1bd6c9c1f583764de1bf0ecf8ff9b2d518198fe3d22268b6b3e603e552d", func := "cohousing/cohousinglaw05.PiecewiseOrder", spec := "piecewiseOrder", unfollowed := true, recurses := true, apart := false }
def PiecewiseOrderSaid : Prop := piecewiseOrderRow.holds Try.pinned (OpenSpec.ofChange piecewiseOrderSpec)

/-- ITS FALSE NEIGHBOUR: 'it returns false'. Refute it at one input. -/
def piecewiseOrderWrong : ChangeSpec := { name := "piecewiseOrder", fn := fun _ => fun
  | [d1, d2, d3] => { results := [.lit (.bool false)], args := [d1, d2, d3] }
  | _ => none }
def PiecewiseOrderWrongFalsely : Prop := piecewiseOrderRow.holds Try.pinned (OpenSpec.ofChange piecewiseOrderWrong)

/-- 'cohousinglaw05.PiecewiseReduced': WHATEVER THE INPUT: true; the input reads as it did. -/
def piecewiseReducedSpec : ChangeSpec := { name := "piecewiseReduced", fn := fun _ => fun
  | [d1, d2, d3] => { results := [.lit (.bool true)], args := [d1, d2, d3] }
  | _ => none }
def piecewiseReducedRow : OpenClaim := { program := "ytmhimmodigeeiaa", sum := "b69cb1bd6c9c1f583764de1bf0ecf8ff9b2d518198fe3d22268b6b3e603e552d", func := "cohousing/cohousinglaw05.PiecewiseReduced", spec := "piecewiseReduced", unfollowed := true, recurses := true, apart := false }
def PiecewiseReducedSaid : Prop := piecewiseReducedRow.holds Try.pinned (OpenSpec.ofChange piecewiseReducedSpec)

/-- ITS FALSE NEIGHBOUR: 'it returns false'. Refute it at one input. -/
def piecewiseReducedWrong : ChangeSpec := { name := "piecewiseReduced", fn := fun _ => fun
  | [d1, d2, d3] => { results := [.lit (.bool false)], args := [d1, d2, d3] }
  | _ => none }
def PiecewiseReducedWrongFalsely : Prop := piecewiseReducedRow.holds Try.pinned (OpenSpec.ofChange piecewiseReducedWrong)

/-- 'cohousinglaw05.PiecewiseScales': WHATEVER THE INPUT: true; the input reads as it did. -/
def piecewiseScalesSpec : ChangeSpec := { name := "piecewiseScales", fn := fun _ => fun
  | [d1, d2, d3] => { results := [.lit (.bool true)], args := [d1, d2, d3] }
  | _ => none }
def piecewiseScalesRow : OpenClaim := { program := "ytmhimmodigeeiaa", sum := "b69cb1bd6c9c1f583764de1bf0ecf8ff9b2d518198fe3d22268b6b3e603e552d", func := "cohousing/cohousinglaw05.PiecewiseScales", spec := "piecewiseScales", unfollowed := true, recurses := true, apart := false }
def PiecewiseScalesSaid : Prop := piecewiseScalesRow.holds Try.pinned (OpenSpec.ofChange piecewiseScalesSpec)

/-- ITS FALSE NEIGHBOUR: 'it returns false'. Refute it at one input. -/
def piecewiseScalesWrong : ChangeSpec := { name := "piecewiseScales", fn := fun _ => fun
  | [d1, d2, d3] => { results := [.lit (.bool false)], args := [d1, d2, d3] }
  | _ => none }
def PiecewiseScalesWrongFalsely : Prop := piecewiseScalesRow.holds Try.pinned (OpenSpec.ofChange piecewiseScalesWrong)

/- THE SECOND FORM. 'bulk': how many values and letters a reading holds, each counted each time it is reached (what is shared counts as often as it is met; a slice's spare places count too). A statement '..UptoSaid' is the law's where the arguments, and the package variables that the reading takes, are together of bulk at most 1048576: NARROWER than '..Said'. Prove '..Said' where nothing that the law and all that it calls make is longer than what came in: it says more and counts as full. Else prove '..UptoSaid'. A law counts once. -/
mutual
def uptoBulk {H : Type} : DataW H → Nat
  | .lit (.string bytes) => bytes.length + 1
  | .lit _ => 1
  | .nil => 1
  | .ptr d => uptoBulk d + 1
  | .slice elems spare => uptoBulkAll elems + uptoBulkAll spare + 1
  | .agg parts => uptoBulkAll parts + 1
  | .iface _ d => uptoBulk d + 1
  | .map entries => uptoBulkEntries entries + 1
  | .held _ => 1
def uptoBulkAll {H : Type} : List (DataW H) → Nat
  | [] => 0
  | d :: r => uptoBulk d + uptoBulkAll r
def uptoBulkEntries {H : Type} : List (Lit × DataW H) → Nat
  | [] => 0
  | x :: r => uptoBulkEntry x + uptoBulkEntries r
def uptoBulkEntry {H : Type} : Lit × DataW H → Nat
  | (.string bytes, d) => bytes.length + uptoBulk d + 1
  | (_, d) => uptoBulk d + 1
 end
def uptoSmall : (H : Type) → List (DataW H) → Bool := fun _ ds => decide (uptoBulkAll ds ≤ 1048576)
def OpenSpec.upto (s : _root_.Go.ChangeSpec) : _root_.Go.OpenSpec := { _root_.Go.OpenSpec.ofChange s with cond := some uptoSmall }

/-- 'cohousinglaw05.PiecewiseMatchesReference', WHERE WHAT IT READS IS OF BULK AT MOST 1048576: true; the input reads as it did. -/
def piecewiseMatchesReferenceUptoRow : OpenClaim := { program := "ytmhimmodigeeiaa", sum := "b69cb1bd6c9c1f583764de1bf0ecf8ff9b2d518198fe3d22268b6b3e603e552d", func := "cohousing/cohousinglaw05.PiecewiseMatchesReference", spec := "piecewiseMatchesReference", unfollowed := true, recurses := true, apart := false, narrowed := true }
def PiecewiseMatchesReferenceUptoSaid : Prop := piecewiseMatchesReferenceUptoRow.holds Try.pinned (OpenSpec.upto piecewiseMatchesReferenceSpec)

/-- 'cohousinglaw05.PiecewiseSums', WHERE WHAT IT READS IS OF BULK AT MOST 1048576: true; the input reads as it did. -/
def piecewiseSumsUptoRow : OpenClaim := { program := "ytmhimmodigeeiaa", sum := "b69cb1bd6c9c1f583764de1bf0ecf8ff9b2d518198fe3d22268b6b3e603e552d", func := "cohousing/cohousinglaw05.PiecewiseSums", spec := "piecewiseSums", unfollowed := true, recurses := true, apart := false, narrowed := true }
def PiecewiseSumsUptoSaid : Prop := piecewiseSumsUptoRow.holds Try.pinned (OpenSpec.upto piecewiseSumsSpec)

/-- 'cohousinglaw05.PiecewiseLeast', WHERE WHAT IT READS IS OF BULK AT MOST 1048576: true; the input reads as it did. -/
def piecewiseLeastUptoRow : OpenClaim := { program := "ytmhimmodigeeiaa", sum := "b69cb1bd6c9c1f583764de1bf0ecf8ff9b2d518198fe3d22268b6b3e603e552d", func := "cohousing/cohousinglaw05.PiecewiseLeast", spec := "piecewiseLeast", unfollowed := true, recurses := true, apart := false, narrowed := true }
def PiecewiseLeastUptoSaid : Prop := piecewiseLeastUptoRow.holds Try.pinned (OpenSpec.upto piecewiseLeastSpec)

/-- 'cohousinglaw05.PiecewiseBelow', WHERE WHAT IT READS IS OF BULK AT MOST 1048576: true; the input reads as it did. -/
def piecewiseBelowUptoRow : OpenClaim := { program := "ytmhimmodigeeiaa", sum := "b69cb1bd6c9c1f583764de1bf0ecf8ff9b2d518198fe3d22268b6b3e603e552d", func := "cohousing/cohousinglaw05.PiecewiseBelow", spec := "piecewiseBelow", unfollowed := true, recurses := true, apart := false, narrowed := true }
def PiecewiseBelowUptoSaid : Prop := piecewiseBelowUptoRow.holds Try.pinned (OpenSpec.upto piecewiseBelowSpec)

/-- 'cohousinglaw05.PiecewiseOrder', WHERE WHAT IT READS IS OF BULK AT MOST 1048576: true; the input reads as it did. -/
def piecewiseOrderUptoRow : OpenClaim := { program := "ytmhimmodigeeiaa", sum := "b69cb1bd6c9c1f583764de1bf0ecf8ff9b2d518198fe3d22268b6b3e603e552d", func := "cohousing/cohousinglaw05.PiecewiseOrder", spec := "piecewiseOrder", unfollowed := true, recurses := true, apart := false, narrowed := true }
def PiecewiseOrderUptoSaid : Prop := piecewiseOrderUptoRow.holds Try.pinned (OpenSpec.upto piecewiseOrderSpec)

/-- 'cohousinglaw05.PiecewiseReduced', WHERE WHAT IT READS IS OF BULK AT MOST 1048576: true; the input reads as it did. -/
def piecewiseReducedUptoRow : OpenClaim := { program := "ytmhimmodigeeiaa", sum := "b69cb1bd6c9c1f583764de1bf0ecf8ff9b2d518198fe3d22268b6b3e603e552d", func := "cohousing/cohousinglaw05.PiecewiseReduced", spec := "piecewiseReduced", unfollowed := true, recurses := true, apart := false, narrowed := true }
def PiecewiseReducedUptoSaid : Prop := piecewiseReducedUptoRow.holds Try.pinned (OpenSpec.upto piecewiseReducedSpec)

/-- 'cohousinglaw05.PiecewiseScales', WHERE WHAT IT READS IS OF BULK AT MOST 1048576: true; the input reads as it did. -/
def piecewiseScalesUptoRow : OpenClaim := { program := "ytmhimmodigeeiaa", sum := "b69cb1bd6c9c1f583764de1bf0ecf8ff9b2d518198fe3d22268b6b3e603e552d", func := "cohousing/cohousinglaw05.PiecewiseScales", spec := "piecewiseScales", unfollowed := true, recurses := true, apart := false, narrowed := true }
def PiecewiseScalesUptoSaid : Prop := piecewiseScalesUptoRow.holds Try.pinned (OpenSpec.upto piecewiseScalesSpec)

end Rows
end Go.Proofs.Ytmhimmodigeeiaa
