/-
  No cell of these rows narrows 'for every input' (looked for: loops, veiled, ifaces, maps, wideKeys, modest, calm, conditions, laid).
  DERIVED. THE GIVEN ROWS OF THIS SEAT. 8 by the template 'for every input the law returns true; each argument reads behind the call as it read before'; 0 by the template 'total and deterministic' (their statements: YthjjabcbngffoaaTotals.lean).
  GIVEN WITH THE SEED: the statements are not yours to turn. If you find one false, say at which input.
  Laid BY PROGRAM, IN A SANDBOX (cutbox-rows.mjs): the forced cells as the released guide's own fill.sh prints them over the translation b8fce1eca9eb9c05… (all of the seat's roots in one cut). By AI agents, Wed Nov 11 2026. No macro, syntax, notation, axiom, sorry.
-/
import Derived.Test.YthjjabcbngffoaaChecked
import GoSem.Claim
import GoSem.ClaimJoined
import GoSem.ClaimMapViews
import Derived.JoinedTies
import Derived.KernelRfl
namespace Go.Proofs.Ythjjabcbngffoaa
/- THE CELL 'sum', in the pinned program and in every row, IS THE sha256 OF THE DUMP (.gsa) THAT YthjjabcbngffoaaProg.lean LOADS. Nothing in Lean hashes anything: it is a label: what it is worth is what the hold of that sum in a sandbox is worth. -/
noncomputable def Try.pinned : Pinned := { name := "ythjjabcbngffoaa", sum := "b8fce1eca9eb9c051c0c195206d243e423f97aefb59ec2ee8675cc823fcb55a4", checked := Try.checked }
namespace Rows
def none {H : Type} : Left H := { results := [], args := [] }

/-- 'cohousinglaw29.ChargesMatchesReference': WHATEVER THE INPUT: true; the input reads as it did. -/
def chargesMatchesReferenceSpec : ChangeSpec := { name := "chargesMatchesReference", fn := fun _ => fun
  | [d1, d2, d3, d4, d5, d6] => { results := [.lit (.bool true)], args := [d1, d2, d3, d4, d5, d6] }
  | _ => none }
def chargesMatchesReferenceRow : OpenClaim := { program := "ythjjabcbngffoaa", sum := "b8fce1eca9eb9c051c0c195206d243e423f97aefb59ec2ee8675cc823fcb55a4", func := "cohousing/cohousinglaw29.ChargesMatchesReference", spec := "chargesMatchesReference", unfollowed := true, recurses := true, apart := false }
def ChargesMatchesReferenceSaid : Prop := chargesMatchesReferenceRow.holds Try.pinned (OpenSpec.ofChange chargesMatchesReferenceSpec)

/-- ITS FALSE NEIGHBOUR: 'it returns false'. Refute it at one input. -/
def chargesMatchesReferenceWrong : ChangeSpec := { name := "chargesMatchesReference", fn := fun _ => fun
  | [d1, d2, d3, d4, d5, d6] => { results := [.lit (.bool false)], args := [d1, d2, d3, d4, d5, d6] }
  | _ => none }
def ChargesMatchesReferenceWrongFalsely : Prop := chargesMatchesReferenceRow.holds Try.pinned (OpenSpec.ofChange chargesMatchesReferenceWrong)

/-- 'cohousinglaw29.ChargesSum': WHATEVER THE INPUT: true; the input reads as it did. -/
def chargesSumSpec : ChangeSpec := { name := "chargesSum", fn := fun _ => fun
  | [d1, d2, d3, d4] => { results := [.lit (.bool true)], args := [d1, d2, d3, d4] }
  | _ => none }
def chargesSumRow : OpenClaim := { program := "ythjjabcbngffoaa", sum := "b8fce1eca9eb9c051c0c195206d243e423f97aefb59ec2ee8675cc823fcb55a4", func := "cohousing/cohousinglaw29.ChargesSum", spec := "chargesSum", unfollowed := true, recurses := true, apart := false }
def ChargesSumSaid : Prop := chargesSumRow.holds Try.pinned (OpenSpec.ofChange chargesSumSpec)

/-- ITS FALSE NEIGHBOUR: 'it returns false'. Refute it at one input. -/
def chargesSumWrong : ChangeSpec := { name := "chargesSum", fn := fun _ => fun
  | [d1, d2, d3, d4] => { results := [.lit (.bool false)], args := [d1, d2, d3, d4] }
  | _ => none }
def ChargesSumWrongFalsely : Prop := chargesSumRow.holds Try.pinned (OpenSpec.ofChange chargesSumWrong)

/-- 'cohousinglaw29.ChargesNarrower': WHATEVER THE INPUT: true; the input reads as it did. -/
def chargesNarrowerSpec : ChangeSpec := { name := "chargesNarrower", fn := fun _ => fun
  | [d1, d2, d3, d4] => { results := [.lit (.bool true)], args := [d1, d2, d3, d4] }
  | _ => none }
def chargesNarrowerRow : OpenClaim := { program := "ythjjabcbngffoaa", sum := "b8fce1eca9eb9c051c0c195206d243e423f97aefb59ec2ee8675cc823fcb55a4", func := "cohousing/cohousinglaw29.ChargesNarrower", spec := "chargesNarrower", unfollowed := true, recurses := true, apart := false }
def ChargesNarrowerSaid : Prop := chargesNarrowerRow.holds Try.pinned (OpenSpec.ofChange chargesNarrowerSpec)

/-- ITS FALSE NEIGHBOUR: 'it returns false'. Refute it at one input. -/
def chargesNarrowerWrong : ChangeSpec := { name := "chargesNarrower", fn := fun _ => fun
  | [d1, d2, d3, d4] => { results := [.lit (.bool false)], args := [d1, d2, d3, d4] }
  | _ => none }
def ChargesNarrowerWrongFalsely : Prop := chargesNarrowerRow.holds Try.pinned (OpenSpec.ofChange chargesNarrowerWrong)

/-- 'cohousinglaw29.ChargesExact': WHATEVER THE INPUT: true; the input reads as it did. -/
def chargesExactSpec : ChangeSpec := { name := "chargesExact", fn := fun _ => fun
  | [d1, d2] => { results := [.lit (.bool true)], args := [d1, d2] }
  | _ => none }
def chargesExactRow : OpenClaim := { program := "ythjjabcbngffoaa", sum := "b8fce1eca9eb9c051c0c195206d243e423f97aefb59ec2ee8675cc823fcb55a4", func := "cohousing/cohousinglaw29.ChargesExact", spec := "chargesExact", unfollowed := true, recurses := true, apart := false }
def ChargesExactSaid : Prop := chargesExactRow.holds Try.pinned (OpenSpec.ofChange chargesExactSpec)

/-- ITS FALSE NEIGHBOUR: 'it returns false'. Refute it at one input. -/
def chargesExactWrong : ChangeSpec := { name := "chargesExact", fn := fun _ => fun
  | [d1, d2] => { results := [.lit (.bool false)], args := [d1, d2] }
  | _ => none }
def ChargesExactWrongFalsely : Prop := chargesExactRow.holds Try.pinned (OpenSpec.ofChange chargesExactWrong)

/-- 'cohousinglaw29.ChargesRight': WHATEVER THE INPUT: true; the input reads as it did. -/
def chargesRightSpec : ChangeSpec := { name := "chargesRight", fn := fun _ => fun
  | [d1, d2, d3, d4, d5] => { results := [.lit (.bool true)], args := [d1, d2, d3, d4, d5] }
  | _ => none }
def chargesRightRow : OpenClaim := { program := "ythjjabcbngffoaa", sum := "b8fce1eca9eb9c051c0c195206d243e423f97aefb59ec2ee8675cc823fcb55a4", func := "cohousing/cohousinglaw29.ChargesRight", spec := "chargesRight", unfollowed := true, recurses := true, apart := false }
def ChargesRightSaid : Prop := chargesRightRow.holds Try.pinned (OpenSpec.ofChange chargesRightSpec)

/-- ITS FALSE NEIGHBOUR: 'it returns false'. Refute it at one input. -/
def chargesRightWrong : ChangeSpec := { name := "chargesRight", fn := fun _ => fun
  | [d1, d2, d3, d4, d5] => { results := [.lit (.bool false)], args := [d1, d2, d3, d4, d5] }
  | _ => none }
def ChargesRightWrongFalsely : Prop := chargesRightRow.holds Try.pinned (OpenSpec.ofChange chargesRightWrong)

/-- 'cohousinglaw29.ChargesTight': WHATEVER THE INPUT: true; the input reads as it did. -/
def chargesTightSpec : ChangeSpec := { name := "chargesTight", fn := fun _ => fun
  | [d1, d2, d3, d4, d5] => { results := [.lit (.bool true)], args := [d1, d2, d3, d4, d5] }
  | _ => none }
def chargesTightRow : OpenClaim := { program := "ythjjabcbngffoaa", sum := "b8fce1eca9eb9c051c0c195206d243e423f97aefb59ec2ee8675cc823fcb55a4", func := "cohousing/cohousinglaw29.ChargesTight", spec := "chargesTight", unfollowed := true, recurses := true, apart := false }
def ChargesTightSaid : Prop := chargesTightRow.holds Try.pinned (OpenSpec.ofChange chargesTightSpec)

/-- ITS FALSE NEIGHBOUR: 'it returns false'. Refute it at one input. -/
def chargesTightWrong : ChangeSpec := { name := "chargesTight", fn := fun _ => fun
  | [d1, d2, d3, d4, d5] => { results := [.lit (.bool false)], args := [d1, d2, d3, d4, d5] }
  | _ => none }
def ChargesTightWrongFalsely : Prop := chargesTightRow.holds Try.pinned (OpenSpec.ofChange chargesTightWrong)

/-- 'cohousingtop.TopSettles': WHATEVER THE INPUT: true; the input reads as it did. -/
def topSettlesSpec : ChangeSpec := { name := "topSettles", fn := fun _ => fun
  | [d1, d2, d3, d4, d5, d6] => { results := [.lit (.bool true)], args := [d1, d2, d3, d4, d5, d6] }
  | _ => none }
def topSettlesRow : OpenClaim := { program := "ythjjabcbngffoaa", sum := "b8fce1eca9eb9c051c0c195206d243e423f97aefb59ec2ee8675cc823fcb55a4", func := "cohousing/cohousingtop.TopSettles", spec := "topSettles", unfollowed := true, recurses := true, apart := false }
def TopSettlesSaid : Prop := topSettlesRow.holds Try.pinned (OpenSpec.ofChange topSettlesSpec)

/-- ITS FALSE NEIGHBOUR: 'it returns false'. Refute it at one input. -/
def topSettlesWrong : ChangeSpec := { name := "topSettles", fn := fun _ => fun
  | [d1, d2, d3, d4, d5, d6] => { results := [.lit (.bool false)], args := [d1, d2, d3, d4, d5, d6] }
  | _ => none }
def TopSettlesWrongFalsely : Prop := topSettlesRow.holds Try.pinned (OpenSpec.ofChange topSettlesWrong)

/-- 'cohousingtop.TopTruth': WHATEVER THE INPUT: true; the input reads as it did. -/
def topTruthSpec : ChangeSpec := { name := "topTruth", fn := fun _ => fun
  | [d1, d2, d3, d4, d5] => { results := [.lit (.bool true)], args := [d1, d2, d3, d4, d5] }
  | _ => none }
def topTruthRow : OpenClaim := { program := "ythjjabcbngffoaa", sum := "b8fce1eca9eb9c051c0c195206d243e423f97aefb59ec2ee8675cc823fcb55a4", func := "cohousing/cohousingtop.TopTruth", spec := "topTruth", unfollowed := true, recurses := true, apart := false }
def TopTruthSaid : Prop := topTruthRow.holds Try.pinned (OpenSpec.ofChange topTruthSpec)

/-- ITS FALSE NEIGHBOUR: 'it returns false'. Refute it at one input. -/
def topTruthWrong : ChangeSpec := { name := "topTruth", fn := fun _ => fun
  | [d1, d2, d3, d4, d5] => { results := [.lit (.bool false)], args := [d1, d2, d3, d4, d5] }
  | _ => none }
def TopTruthWrongFalsely : Prop := topTruthRow.holds Try.pinned (OpenSpec.ofChange topTruthWrong)

/- THE SECOND FORM. 'bulk': how many values and letters a reading holds, each counted each time it is reached (what is shared counts as often as it is met; a slice's spare places count too). A statement '..UptoSaid' is the law's where the arguments, and the package variables that the reading takes, are together of bulk at most 1048576: NARROWER than '..Said'. Prove '..Said' where nothing that the law and all that it calls make is longer than what came in: it says more and counts as full. Else prove '..UptoSaid'. A law counts once. -/
mutual
def uptoBulk {H : Type} : DataW H → Nat
  | .lit (.string bytes) => bytes.length + 1
  | .lit _ => 1
  | .nil => 1
  | .ptr d => uptoBulk d + 1
  | .slice elems spare => uptoBulkAll elems + uptoBulkAll spare + 1
  | .agg parts => uptoBulkAll parts + 1
  | .iface _ d => uptoBulk d + 1
  | .map entries => uptoBulkEntries entries + 1
  | .held _ => 1
def uptoBulkAll {H : Type} : List (DataW H) → Nat
  | [] => 0
  | d :: r => uptoBulk d + uptoBulkAll r
def uptoBulkEntries {H : Type} : List (Lit × DataW H) → Nat
  | [] => 0
  | x :: r => uptoBulkEntry x + uptoBulkEntries r
def uptoBulkEntry {H : Type} : Lit × DataW H → Nat
  | (.string bytes, d) => bytes.length + uptoBulk d + 1
  | (_, d) => uptoBulk d + 1
 end
def uptoSmall : (H : Type) → List (DataW H) → Bool := fun _ ds => decide (uptoBulkAll ds ≤ 1048576)
def OpenSpec.upto (s : _root_.Go.ChangeSpec) : _root_.Go.OpenSpec := { _root_.Go.OpenSpec.ofChange s with cond := some uptoSmall }

/-- 'cohousinglaw29.ChargesMatchesReference', WHERE WHAT IT READS IS OF BULK AT MOST 1048576: true; the input reads as it did. -/
def chargesMatchesReferenceUptoRow : OpenClaim := { program := "ythjjabcbngffoaa", sum := "b8fce1eca9eb9c051c0c195206d243e423f97aefb59ec2ee8675cc823fcb55a4", func := "cohousing/cohousinglaw29.ChargesMatchesReference", spec := "chargesMatchesReference", unfollowed := true, recurses := true, apart := false, narrowed := true }
def ChargesMatchesReferenceUptoSaid : Prop := chargesMatchesReferenceUptoRow.holds Try.pinned (OpenSpec.upto chargesMatchesReferenceSpec)

/-- 'cohousinglaw29.ChargesSum', WHERE WHAT IT READS IS OF BULK AT MOST 1048576: true; the input reads as it did. -/
def chargesSumUptoRow : OpenClaim := { program := "ythjjabcbngffoaa", sum := "b8fce1eca9eb9c051c0c195206d243e423f97aefb59ec2ee8675cc823fcb55a4", func := "cohousing/cohousinglaw29.ChargesSum", spec := "chargesSum", unfollowed := true, recurses := true, apart := false, narrowed := true }
def ChargesSumUptoSaid : Prop := chargesSumUptoRow.holds Try.pinned (OpenSpec.upto chargesSumSpec)

/-- 'cohousinglaw29.ChargesNarrower', WHERE WHAT IT READS IS OF BULK AT MOST 1048576: true; the input reads as it did. -/
def chargesNarrowerUptoRow : OpenClaim := { program := "ythjjabcbngffoaa", sum := "b8fce1eca9eb9c051c0c195206d243e423f97aefb59ec2ee8675cc823fcb55a4", func := "cohousing/cohousinglaw29.ChargesNarrower", spec := "chargesNarrower", unfollowed := true, recurses := true, apart := false, narrowed := true }
def ChargesNarrowerUptoSaid : Prop := chargesNarrowerUptoRow.holds Try.pinned (OpenSpec.upto chargesNarrowerSpec)

/-- 'cohousinglaw29.ChargesExact', WHERE WHAT IT READS IS OF BULK AT MOST 1048576: true; the input reads as it did. -/
def chargesExactUptoRow : OpenClaim := { program := "ythjjabcbngffoaa", sum := "b8fce1eca9eb9c051c0c195206d243e423f97aefb59ec2ee8675cc823fcb55a4", func := "cohousing/cohousinglaw29.ChargesExact", spec := "chargesExact", unfollowed := true, recurses := true, apart := false, narrowed := true }
def ChargesExactUptoSaid : Prop := chargesExactUptoRow.holds Try.pinned (OpenSpec.upto chargesExactSpec)

/-- 'cohousinglaw29.ChargesRight', WHERE WHAT IT READS IS OF BULK AT MOST 1048576: true; the input reads as it did. -/
def chargesRightUptoRow : OpenClaim := { program := "ythjjabcbngffoaa", sum := "b8fce1eca9eb9c051c0c195206d243e423f97aefb59ec2ee8675cc823fcb55a4", func := "cohousing/cohousinglaw29.ChargesRight", spec := "chargesRight", unfollowed := true, recurses := true, apart := false, narrowed := true }
def ChargesRightUptoSaid : Prop := chargesRightUptoRow.holds Try.pinned (OpenSpec.upto chargesRightSpec)

/-- 'cohousinglaw29.ChargesTight', WHERE WHAT IT READS IS OF BULK AT MOST 1048576: true; the input reads as it did. -/
def chargesTightUptoRow : OpenClaim := { program := "ythjjabcbngffoaa", sum := "b8fce1eca9eb9c051c0c195206d243e423f97aefb59ec2ee8675cc823fcb55a4", func := "cohousing/cohousinglaw29.ChargesTight", spec := "chargesTight", unfollowed := true, recurses := true, apart := false, narrowed := true }
def ChargesTightUptoSaid : Prop := chargesTightUptoRow.holds Try.pinned (OpenSpec.upto chargesTightSpec)

/-- 'cohousingtop.TopSettles', WHERE WHAT IT READS IS OF BULK AT MOST 1048576: true; the input reads as it did. -/
def topSettlesUptoRow : OpenClaim := { program := "ythjjabcbngffoaa", sum := "b8fce1eca9eb9c051c0c195206d243e423f97aefb59ec2ee8675cc823fcb55a4", func := "cohousing/cohousingtop.TopSettles", spec := "topSettles", unfollowed := true, recurses := true, apart := false, narrowed := true }
def TopSettlesUptoSaid : Prop := topSettlesUptoRow.holds Try.pinned (OpenSpec.upto topSettlesSpec)

/-- 'cohousingtop.TopTruth', WHERE WHAT IT READS IS OF BULK AT MOST 1048576: true; the input reads as it did. -/
def topTruthUptoRow : OpenClaim := { program := "ythjjabcbngffoaa", sum := "b8fce1eca9eb9c051c0c195206d243e423f97aefb59ec2ee8675cc823fcb55a4", func := "cohousing/cohousingtop.TopTruth", spec := "topTruth", unfollowed := true, recurses := true, apart := false, narrowed := true }
def TopTruthUptoSaid : Prop := topTruthUptoRow.holds Try.pinned (OpenSpec.upto topTruthSpec)

end Rows
end Go.Proofs.Ythjjabcbngffoaa
