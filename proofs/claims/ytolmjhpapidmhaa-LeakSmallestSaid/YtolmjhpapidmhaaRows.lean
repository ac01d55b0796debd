/-
  No cell of these rows narrows 'for every input' (looked for: loops, veiled, ifaces, maps, wideKeys, modest, calm, conditions, laid).
  DERIVED. THE GIVEN ROWS OF THIS SEAT. 8 by the template 'for every input the law returns true; each argument reads behind the call as it read before'; 0 by the template 'total and deterministic' (their statements: YtolmjhpapidmhaaTotals.lean).
  GIVEN WITH THE SEED: the statements are not yours to turn. If you find one false, say at which input.
  Laid BY PROGRAM, IN A SANDBOX (cutbox-rows.mjs): the forced cells as the released guide's own fill.sh prints them over the translation 74c6a2683240cfe7… (all of the seat's roots in one cut). By AI agents, Wed Nov 11 2026. No macro, syntax, notation, axiom, sorry.
-/
import Derived.Test.YtolmjhpapidmhaaChecked
import GoSem.Claim
import GoSem.ClaimJoined
import GoSem.ClaimMapViews
import Derived.JoinedTies
import Derived.KernelRfl
namespace Go.Proofs.Ytolmjhpapidmhaa
/- THE CELL 'sum', in the pinned program and in every row, IS THE sha256 OF THE DUMP (.gsa) THAT YtolmjhpapidmhaaProg.lean LOADS. Nothing in Lean hashes anything: it is a label: what it is worth is what the hold of that sum in a sandbox is worth. -/
noncomputable def Try.pinned : Pinned := { name := "ytolmjhpapidmhaa", sum := "74c6a2683240cfe74b2f7ace8b20bf707acc28263fe641760c2bdf76844d1c72", checked := Try.checked }
namespace Rows
def none {H : Type} : Left H := { results := [], args := [] }

/-- 'cohousinglaw30.LeakMatchesReference': WHATEVER THE INPUT: true; the input reads as it did. -/
def leakMatchesReferenceSpec : ChangeSpec := { name := "leakMatchesReference", fn := fun _ => fun
  | [d1, d2, d3] => { results := [.lit (.bool true)], args := [d1, d2, d3] }
  | _ => none }
def leakMatchesReferenceRow : OpenClaim := { program := "ytolmjhpapidmhaa", sum := "74c6a2683240cfe74b2f7ace8b20bf707acc28263fe641760c2bdf76844d1c72", func := "cohousing/cohousinglaw30.LeakMatchesReference", spec := "leakMatchesReference", unfollowed := true, recurses := true, apart := false }
def LeakMatchesReferenceSaid : Prop := leakMatchesReferenceRow.holds Try.pinned (OpenSpec.ofChange leakMatchesReferenceSpec)

/-- ITS FALSE NEIGHBOUR: 'it returns false'. Refute it at one input. -/
def leakMatchesReferenceWrong : ChangeSpec := { name := "leakMatchesReference", fn := fun _ => fun
  | [d1, d2, d3] => { results := [.lit (.bool false)], args := [d1, d2, d3] }
  | _ => none }
def LeakMatchesReferenceWrongFalsely : Prop := leakMatchesReferenceRow.holds Try.pinned (OpenSpec.ofChange leakMatchesReferenceWrong)

/-- 'cohousinglaw30.LeakExplains': WHATEVER THE INPUT: true; the input reads as it did. -/
def leakExplainsSpec : ChangeSpec := { name := "leakExplains", fn := fun _ => fun
  | [d1, d2, d3] => { results := [.lit (.bool true)], args := [d1, d2, d3] }
  | _ => none }
def leakExplainsRow : OpenClaim := { program := "ytolmjhpapidmhaa", sum := "74c6a2683240cfe74b2f7ace8b20bf707acc28263fe641760c2bdf76844d1c72", func := "cohousing/cohousinglaw30.LeakExplains", spec := "leakExplains", unfollowed := true, recurses := true, apart := false }
def LeakExplainsSaid : Prop := leakExplainsRow.holds Try.pinned (OpenSpec.ofChange leakExplainsSpec)

/-- ITS FALSE NEIGHBOUR: 'it returns false'. Refute it at one input. -/
def leakExplainsWrong : ChangeSpec := { name := "leakExplains", fn := fun _ => fun
  | [d1, d2, d3] => { results := [.lit (.bool false)], args := [d1, d2, d3] }
  | _ => none }
def LeakExplainsWrongFalsely : Prop := leakExplainsRow.holds Try.pinned (OpenSpec.ofChange leakExplainsWrong)

/-- 'cohousinglaw30.LeakSmallest': WHATEVER THE INPUT: true; the input reads as it did. -/
def leakSmallestSpec : ChangeSpec := { name := "leakSmallest", fn := fun _ => fun
  | [d1, d2, d3, d4] => { results := [.lit (.bool true)], args := [d1, d2, d3, d4] }
  | _ => none }
def leakSmallestRow : OpenClaim := { program := "ytolmjhpapidmhaa", sum := "74c6a2683240cfe74b2f7ace8b20bf707acc28263fe641760c2bdf76844d1c72", func := "cohousing/cohousinglaw30.LeakSmallest", spec := "leakSmallest", unfollowed := true, recurses := true, apart := false }
def LeakSmallestSaid : Prop := leakSmallestRow.holds Try.pinned (OpenSpec.ofChange leakSmallestSpec)

/-- ITS FALSE NEIGHBOUR: 'it returns false'. Refute it at one input. -/
def leakSmallestWrong : ChangeSpec := { name := "leakSmallest", fn := fun _ => fun
  | [d1, d2, d3, d4] => { results := [.lit (.bool false)], args := [d1, d2, d3, d4] }
  | _ => none }
def LeakSmallestWrongFalsely : Prop := leakSmallestRow.holds Try.pinned (OpenSpec.ofChange leakSmallestWrong)

/-- 'cohousinglaw30.LeakSure': WHATEVER THE INPUT: true; the input reads as it did. -/
def leakSureSpec : ChangeSpec := { name := "leakSure", fn := fun _ => fun
  | [d1, d2, d3] => { results := [.lit (.bool true)], args := [d1, d2, d3] }
  | _ => none }
def leakSureRow : OpenClaim := { program := "ytolmjhpapidmhaa", sum := "74c6a2683240cfe74b2f7ace8b20bf707acc28263fe641760c2bdf76844d1c72", func := "cohousing/cohousinglaw30.LeakSure", spec := "leakSure", unfollowed := true, recurses := true, apart := false }
def LeakSureSaid : Prop := leakSureRow.holds Try.pinned (OpenSpec.ofChange leakSureSpec)

/-- ITS FALSE NEIGHBOUR: 'it returns false'. Refute it at one input. -/
def leakSureWrong : ChangeSpec := { name := "leakSure", fn := fun _ => fun
  | [d1, d2, d3] => { results := [.lit (.bool false)], args := [d1, d2, d3] }
  | _ => none }
def LeakSureWrongFalsely : Prop := leakSureRow.holds Try.pinned (OpenSpec.ofChange leakSureWrong)

/-- 'cohousinglaw30.LeakNothing': WHATEVER THE INPUT: true; the input reads as it did. -/
def leakNothingSpec : ChangeSpec := { name := "leakNothing", fn := fun _ => fun
  | [d1, d2, d3] => { results := [.lit (.bool true)], args := [d1, d2, d3] }
  | _ => none }
def leakNothingRow : OpenClaim := { program := "ytolmjhpapidmhaa", sum := "74c6a2683240cfe74b2f7ace8b20bf707acc28263fe641760c2bdf76844d1c72", func := "cohousing/cohousinglaw30.LeakNothing", spec := "leakNothing", unfollowed := true, recurses := true, apart := false }
def LeakNothingSaid : Prop := leakNothingRow.holds Try.pinned (OpenSpec.ofChange leakNothingSpec)

/-- ITS FALSE NEIGHBOUR: 'it returns false'. Refute it at one input. -/
def leakNothingWrong : ChangeSpec := { name := "leakNothing", fn := fun _ => fun
  | [d1, d2, d3] => { results := [.lit (.bool false)], args := [d1, d2, d3] }
  | _ => none }
def LeakNothingWrongFalsely : Prop := leakNothingRow.holds Try.pinned (OpenSpec.ofChange leakNothingWrong)

/-- 'cohousinglaw30.LeakMore': WHATEVER THE INPUT: true; the input reads as it did. -/
def leakMoreSpec : ChangeSpec := { name := "leakMore", fn := fun _ => fun
  | [d1, d2, d3, d4] => { results := [.lit (.bool true)], args := [d1, d2, d3, d4] }
  | _ => none }
def leakMoreRow : OpenClaim := { program := "ytolmjhpapidmhaa", sum := "74c6a2683240cfe74b2f7ace8b20bf707acc28263fe641760c2bdf76844d1c72", func := "cohousing/cohousinglaw30.LeakMore", spec := "leakMore", unfollowed := true, recurses := true, apart := false }
def LeakMoreSaid : Prop := leakMoreRow.holds Try.pinned (OpenSpec.ofChange leakMoreSpec)

/-- ITS FALSE NEIGHBOUR: 'it returns false'. Refute it at one input. -/
def leakMoreWrong : ChangeSpec := { name := "leakMore", fn := fun _ => fun
  | [d1, d2, d3, d4] => { results := [.lit (.bool false)], args := [d1, d2, d3, d4] }
  | _ => none }
def LeakMoreWrongFalsely : Prop := leakMoreRow.holds Try.pinned (OpenSpec.ofChange leakMoreWrong)

/-- 'cohousinglaw30.LeakPlay': WHATEVER THE INPUT: true; the input reads as it did. -/
def leakPlaySpec : ChangeSpec := { name := "leakPlay", fn := fun _ => fun
  | [d1, d2, d3, d4, d5, d6] => { results := [.lit (.bool true)], args := [d1, d2, d3, d4, d5, d6] }
  | _ => none }
def leakPlayRow : OpenClaim := { program := "ytolmjhpapidmhaa", sum := "74c6a2683240cfe74b2f7ace8b20bf707acc28263fe641760c2bdf76844d1c72", func := "cohousing/cohousinglaw30.LeakPlay", spec := "leakPlay", unfollowed := true, recurses := true, apart := false }
def LeakPlaySaid : Prop := leakPlayRow.holds Try.pinned (OpenSpec.ofChange leakPlaySpec)

/-- ITS FALSE NEIGHBOUR: 'it returns false'. Refute it at one input. -/
def leakPlayWrong : ChangeSpec := { name := "leakPlay", fn := fun _ => fun
  | [d1, d2, d3, d4, d5, d6] => { results := [.lit (.bool false)], args := [d1, d2, d3, d4, d5, d6] }
  | _ => none }
def LeakPlayWrongFalsely : Prop := leakPlayRow.holds Try.pinned (OpenSpec.ofChange leakPlayWrong)

/-- 'cohousinglaw30.LeakTruth': WHATEVER THE INPUT: true; the input reads as it did. -/
def leakTruthSpec : ChangeSpec := { name := "leakTruth", fn := fun _ => fun
  | [d1, d2, d3, d4, d5] => { results := [.lit (.bool true)], args := [d1, d2, d3, d4, d5] }
  | _ => none }
def leakTruthRow : OpenClaim := { program := "ytolmjhpapidmhaa", sum := "74c6a2683240cfe74b2f7ace8b20bf707acc28263fe641760c2bdf76844d1c72", func := "cohousing/cohousinglaw30.LeakTruth", spec := "leakTruth", unfollowed := true, recurses := true, apart := false }
def LeakTruthSaid : Prop := leakTruthRow.holds Try.pinned (OpenSpec.ofChange leakTruthSpec)

/-- ITS FALSE NEIGHBOUR: 'it returns false'. Refute it at one input. -/
def leakTruthWrong : ChangeSpec := { name := "leakTruth", fn := fun _ => fun
  | [d1, d2, d3, d4, d5] => { results := [.lit (.bool false)], args := [d1, d2, d3, d4, d5] }
  | _ => none }
def LeakTruthWrongFalsely : Prop := leakTruthRow.holds Try.pinned (OpenSpec.ofChange leakTruthWrong)

/- THE SECOND FORM. 'bulk': how many values and letters a reading holds, each counted each time it is reached (what is shared counts as often as it is met; a slice's spare places count too). A statement '..UptoSaid' is the law's where the arguments, and the package variables that the reading takes, are together of bulk at most 1048576: NARROWER than '..Said'. Prove '..Said' where nothing that the law and all that it calls make is longer than what came in: it says more and counts as full. Else prove '..UptoSaid'. A law counts once. -/
mutual
def uptoBulk {H : Type} : DataW H → Nat
  | .lit (.string bytes) => bytes.length + 1
  | .lit _ => 1
  | .nil => 1
  | .ptr d => uptoBulk d + 1
  | .slice elems spare => uptoBulkAll elems + uptoBulkAll spare + 1
  | .agg parts => uptoBulkAll parts + 1
  | .iface _ d => uptoBulk d + 1
  | .map entries => uptoBulkEntries entries + 1
  | .held _ => 1
def uptoBulkAll {H : Type} : List (DataW H) → Nat
  | [] => 0
  | d :: r => uptoBulk d + uptoBulkAll r
def uptoBulkEntries {H : Type} : List (Lit × DataW H) → Nat
  | [] => 0
  | x :: r => uptoBulkEntry x + uptoBulkEntries r
def uptoBulkEntry {H : Type} : Lit × DataW H → Nat
  | (.string bytes, d) => bytes.length + uptoBulk d + 1
  | (_, d) => uptoBulk d + 1
 end
def uptoSmall : (H : Type) → List (DataW H) → Bool := fun _ ds => decide (uptoBulkAll ds ≤ 1048576)
def OpenSpec.upto (s : _root_.Go.ChangeSpec) : _root_.Go.OpenSpec := { _root_.Go.OpenSpec.ofChange s with cond := some uptoSmall }

/-- 'cohousinglaw30.LeakMatchesReference', WHERE WHAT IT READS IS OF BULK AT MOST 1048576: true; the input reads as it did. -/
def leakMatchesReferenceUptoRow : OpenClaim := { program := "ytolmjhpapidmhaa", sum := "74c6a2683240cfe74b2f7ace8b20bf707acc28263fe641760c2bdf76844d1c72", func := "cohousing/cohousinglaw30.LeakMatchesReference", spec := "leakMatchesReference", unfollowed := true, recurses := true, apart := false, narrowed := true }
def LeakMatchesReferenceUptoSaid : Prop := leakMatchesReferenceUptoRow.holds Try.pinned (OpenSpec.upto leakMatchesReferenceSpec)

/-- 'cohousinglaw30.LeakExplains', WHERE WHAT IT READS IS OF BULK AT MOST 1048576: true; the input reads as it did. -/
def leakExplainsUptoRow : OpenClaim := { program := "ytolmjhpapidmhaa", sum := "74c6a2683240cfe74b2f7ace8b20bf707acc28263fe641760c2bdf76844d1c72", func := "cohousing/cohousinglaw30.LeakExplains", spec := "leakExplains", unfollowed := true, recurses := true, apart := false, narrowed := true }
def LeakExplainsUptoSaid : Prop := leakExplainsUptoRow.holds Try.pinned (OpenSpec.upto leakExplainsSpec)

/-- 'cohousinglaw30.LeakSmallest', WHERE WHAT IT READS IS OF BULK AT MOST 1048576: true; the input reads as it did. -/
def leakSmallestUptoRow : OpenClaim := { program := "ytolmjhpapidmhaa", sum := "74c6a2683240cfe74b2f7ace8b20bf707acc28263fe641760c2bdf76844d1c72", func := "cohousing/cohousinglaw30.LeakSmallest", spec := "leakSmallest", unfollowed := true, recurses := true, apart := false, narrowed := true }
def LeakSmallestUptoSaid : Prop := leakSmallestUptoRow.holds Try.pinned (OpenSpec.upto leakSmallestSpec)

/-- 'cohousinglaw30.LeakSure', WHERE WHAT IT READS IS OF BULK AT MOST 1048576: true; the input reads as it did. -/
def leakSureUptoRow : OpenClaim := { program := "ytolmjhpapidmhaa", sum := "74c6a2683240cfe74b2f7ace8b20bf707acc28263fe641760c2bdf76844d1c72", func := "cohousing/cohousinglaw30.LeakSure", spec := "leakSure", unfollowed := true, recurses := true, apart := false, narrowed := true }
def LeakSureUptoSaid : Prop := leakSureUptoRow.holds Try.pinned (OpenSpec.upto leakSureSpec)

/-- 'cohousinglaw30.LeakNothing', WHERE WHAT IT READS IS OF BULK AT MOST 1048576: true; the input reads as it did. -/
def leakNothingUptoRow : OpenClaim := { program := "ytolmjhpapidmhaa", sum := "74c6a2683240cfe74b2f7ace8b20bf707acc28263fe641760c2bdf76844d1c72", func := "cohousing/cohousinglaw30.LeakNothing", spec := "leakNothing", unfollowed := true, recurses := true, apart := false, narrowed := true }
def LeakNothingUptoSaid : Prop := leakNothingUptoRow.holds Try.pinned (OpenSpec.upto leakNothingSpec)

/-- 'cohousinglaw30.LeakMore', WHERE WHAT IT READS IS OF BULK AT MOST 1048576: true; the input reads as it did. -/
def leakMoreUptoRow : OpenClaim := { program := "ytolmjhpapidmhaa", sum := "74c6a2683240cfe74b2f7ace8b20bf707acc28263fe641760c2bdf76844d1c72", func := "cohousing/cohousinglaw30.LeakMore", spec := "leakMore", unfollowed := true, recurses := true, apart := false, narrowed := true }
def LeakMoreUptoSaid : Prop := leakMoreUptoRow.holds Try.pinned (OpenSpec.upto leakMoreSpec)

/-- 'cohousinglaw30.LeakPlay', WHERE WHAT IT READS IS OF BULK AT MOST 1048576: true; the input reads as it did. -/
def leakPlayUptoRow : OpenClaim := { program := "ytolmjhpapidmhaa", sum := "74c6a2683240cfe74b2f7ace8b20bf707acc28263fe641760c2bdf76844d1c72", func := "cohousing/cohousinglaw30.LeakPlay", spec := "leakPlay", unfollowed := true, recurses := true, apart := false, narrowed := true }
def LeakPlayUptoSaid : Prop := leakPlayUptoRow.holds Try.pinned (OpenSpec.upto leakPlaySpec)

/-- 'cohousinglaw30.LeakTruth', WHERE WHAT IT READS IS OF BULK AT MOST 1048576: true; the input reads as it did. -/
def leakTruthUptoRow : OpenClaim := { program := "ytolmjhpapidmhaa", sum := "74c6a2683240cfe74b2f7ace8b20bf707acc28263fe641760c2bdf76844d1c72", func := "cohousing/cohousinglaw30.LeakTruth", spec := "leakTruth", unfollowed := true, recurses := true, apart := false, narrowed := true }
def LeakTruthUptoSaid : Prop := leakTruthUptoRow.holds Try.pinned (OpenSpec.upto leakTruthSpec)

end Rows
end Go.Proofs.Ytolmjhpapidmhaa
