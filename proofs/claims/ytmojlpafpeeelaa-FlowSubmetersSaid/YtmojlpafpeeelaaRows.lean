/-
  No cell of these rows narrows 'for every input' (looked for: loops, veiled, ifaces, maps, wideKeys, modest, calm, conditions, laid).
  DERIVED. THE GIVEN ROWS OF THIS SEAT. 7 by the template 'for every input the law returns true; each argument reads behind the call as it read before'; 0 by the template 'total and deterministic' (their statements: YtmojlpafpeeelaaTotals.lean).
  GIVEN WITH THE SEED: the statements are not yours to turn. If you find one false, say at which input.
  Laid BY PROGRAM, IN A SANDBOX (cutbox-rows.mjs): the forced cells as the released guide's own fill.sh prints them over the translation d657e879a6724011… (all of the seat's roots in one cut). By AI agents, Wed Nov 11 2026. No macro, syntax, notation, axiom, sorry.
-/
import Derived.Test.YtmojlpafpeeelaaChecked
import GoSem.Claim
import GoSem.ClaimJoined
import GoSem.ClaimMapViews
import Derived.JoinedTies
import Derived.KernelRfl
namespace Go.Proofs.Ytmojlpafpeeelaa
/- THE CELL 'sum', in the pinned program and in every row, IS THE sha256 OF THE DUMP (.gsa) THAT YtmojlpafpeeelaaProg.lean LOADS. Nothing in Lean hashes anything: it is a label: what it is worth is what the hold of that sum in a sandbox is worth. -/
noncomputable def Try.pinned : Pinned := { name := "ytmojlpafpeeelaa", sum := "d657e879a6724011ac8ebae3e2cb716d28b7f852c8686d963d131390bcc0387d", checked := Try.checked }
namespace Rows
def none {H : Type} : Left H := { results := [], args := [] }

/-- 'cohousinglaw28.FlowMatchesReference': WHATEVER THE INPUT: true; the input reads as it did. -/
def flowMatchesReferenceSpec : ChangeSpec := { name := "flowMatchesReference", fn := fun _ => fun
  | [d1, d2, d3, d4, d5] => { results := [.lit (.bool true)], args := [d1, d2, d3, d4, d5] }
  | _ => none }
def flowMatchesReferenceRow : OpenClaim := { program := "ytmojlpafpeeelaa", sum := "d657e879a6724011ac8ebae3e2cb716d28b7f852c8686d963d131390bcc0387d", func := "cohousing/cohousinglaw28.FlowMatchesReference", spec := "flowMatchesReference", unfollowed := true, recurses := true, apart := false }
def FlowMatchesReferenceSaid : Prop := flowMatchesReferenceRow.holds Try.pinned (OpenSpec.ofChange flowMatchesReferenceSpec)

/-- ITS FALSE NEIGHBOUR: 'it returns false'. Refute it at one input. -/
def flowMatchesReferenceWrong : ChangeSpec := { name := "flowMatchesReference", fn := fun _ => fun
  | [d1, d2, d3, d4, d5] => { results := [.lit (.bool false)], args := [d1, d2, d3, d4, d5] }
  | _ => none }
def FlowMatchesReferenceWrongFalsely : Prop := flowMatchesReferenceRow.holds Try.pinned (OpenSpec.ofChange flowMatchesReferenceWrong)

/-- 'cohousinglaw28.FlowExact': WHATEVER THE INPUT: true; the input reads as it did. -/
def flowExactSpec : ChangeSpec := { name := "flowExact", fn := fun _ => fun
  | [d1, d2, d3, d4] => { results := [.lit (.bool true)], args := [d1, d2, d3, d4] }
  | _ => none }
def flowExactRow : OpenClaim := { program := "ytmojlpafpeeelaa", sum := "d657e879a6724011ac8ebae3e2cb716d28b7f852c8686d963d131390bcc0387d", func := "cohousing/cohousinglaw28.FlowExact", spec := "flowExact", unfollowed := true, recurses := true, apart := false }
def FlowExactSaid : Prop := flowExactRow.holds Try.pinned (OpenSpec.ofChange flowExactSpec)

/-- ITS FALSE NEIGHBOUR: 'it returns false'. Refute it at one input. -/
def flowExactWrong : ChangeSpec := { name := "flowExact", fn := fun _ => fun
  | [d1, d2, d3, d4] => { results := [.lit (.bool false)], args := [d1, d2, d3, d4] }
  | _ => none }
def FlowExactWrongFalsely : Prop := flowExactRow.holds Try.pinned (OpenSpec.ofChange flowExactWrong)

/-- 'cohousinglaw28.FlowWithin': WHATEVER THE INPUT: true; the input reads as it did. -/
def flowWithinSpec : ChangeSpec := { name := "flowWithin", fn := fun _ => fun
  | [d1, d2, d3] => { results := [.lit (.bool true)], args := [d1, d2, d3] }
  | _ => none }
def flowWithinRow : OpenClaim := { program := "ytmojlpafpeeelaa", sum := "d657e879a6724011ac8ebae3e2cb716d28b7f852c8686d963d131390bcc0387d", func := "cohousing/cohousinglaw28.FlowWithin", spec := "flowWithin", unfollowed := true, recurses := true, apart := false }
def FlowWithinSaid : Prop := flowWithinRow.holds Try.pinned (OpenSpec.ofChange flowWithinSpec)

/-- ITS FALSE NEIGHBOUR: 'it returns false'. Refute it at one input. -/
def flowWithinWrong : ChangeSpec := { name := "flowWithin", fn := fun _ => fun
  | [d1, d2, d3] => { results := [.lit (.bool false)], args := [d1, d2, d3] }
  | _ => none }
def FlowWithinWrongFalsely : Prop := flowWithinRow.holds Try.pinned (OpenSpec.ofChange flowWithinWrong)

/-- 'cohousinglaw28.FlowKnowledge': WHATEVER THE INPUT: true; the input reads as it did. -/
def flowKnowledgeSpec : ChangeSpec := { name := "flowKnowledge", fn := fun _ => fun
  | [d1, d2, d3] => { results := [.lit (.bool true)], args := [d1, d2, d3] }
  | _ => none }
def flowKnowledgeRow : OpenClaim := { program := "ytmojlpafpeeelaa", sum := "d657e879a6724011ac8ebae3e2cb716d28b7f852c8686d963d131390bcc0387d", func := "cohousing/cohousinglaw28.FlowKnowledge", spec := "flowKnowledge", unfollowed := true, recurses := true, apart := false }
def FlowKnowledgeSaid : Prop := flowKnowledgeRow.holds Try.pinned (OpenSpec.ofChange flowKnowledgeSpec)

/-- ITS FALSE NEIGHBOUR: 'it returns false'. Refute it at one input. -/
def flowKnowledgeWrong : ChangeSpec := { name := "flowKnowledge", fn := fun _ => fun
  | [d1, d2, d3] => { results := [.lit (.bool false)], args := [d1, d2, d3] }
  | _ => none }
def FlowKnowledgeWrongFalsely : Prop := flowKnowledgeRow.holds Try.pinned (OpenSpec.ofChange flowKnowledgeWrong)

/-- 'cohousinglaw28.FlowSums': WHATEVER THE INPUT: true; the input reads as it did. -/
def flowSumsSpec : ChangeSpec := { name := "flowSums", fn := fun _ => fun
  | [d1, d2, d3, d4, d5] => { results := [.lit (.bool true)], args := [d1, d2, d3, d4, d5] }
  | _ => none }
def flowSumsRow : OpenClaim := { program := "ytmojlpafpeeelaa", sum := "d657e879a6724011ac8ebae3e2cb716d28b7f852c8686d963d131390bcc0387d", func := "cohousing/cohousinglaw28.FlowSums", spec := "flowSums", unfollowed := true, recurses := true, apart := false }
def FlowSumsSaid : Prop := flowSumsRow.holds Try.pinned (OpenSpec.ofChange flowSumsSpec)

/-- ITS FALSE NEIGHBOUR: 'it returns false'. Refute it at one input. -/
def flowSumsWrong : ChangeSpec := { name := "flowSums", fn := fun _ => fun
  | [d1, d2, d3, d4, d5] => { results := [.lit (.bool false)], args := [d1, d2, d3, d4, d5] }
  | _ => none }
def FlowSumsWrongFalsely : Prop := flowSumsRow.holds Try.pinned (OpenSpec.ofChange flowSumsWrong)

/-- 'cohousinglaw28.FlowFirst': WHATEVER THE INPUT: true; the input reads as it did. -/
def flowFirstSpec : ChangeSpec := { name := "flowFirst", fn := fun _ => fun
  | [d1, d2, d3, d4] => { results := [.lit (.bool true)], args := [d1, d2, d3, d4] }
  | _ => none }
def flowFirstRow : OpenClaim := { program := "ytmojlpafpeeelaa", sum := "d657e879a6724011ac8ebae3e2cb716d28b7f852c8686d963d131390bcc0387d", func := "cohousing/cohousinglaw28.FlowFirst", spec := "flowFirst", unfollowed := true, recurses := true, apart := false }
def FlowFirstSaid : Prop := flowFirstRow.holds Try.pinned (OpenSpec.ofChange flowFirstSpec)

/-- ITS FALSE NEIGHBOUR: 'it returns false'. Refute it at one input. -/
def flowFirstWrong : ChangeSpec := { name := "flowFirst", fn := fun _ => fun
  | [d1, d2, d3, d4] => { results := [.lit (.bool false)], args := [d1, d2, d3, d4] }
  | _ => none }
def FlowFirstWrongFalsely : Prop := flowFirstRow.holds Try.pinned (OpenSpec.ofChange flowFirstWrong)

/-- 'cohousinglaw28.FlowSubmeters': WHATEVER THE INPUT: true; the input reads as it did. -/
def flowSubmetersSpec : ChangeSpec := { name := "flowSubmeters", fn := fun _ => fun
  | [d1, d2] => { results := [.lit (.bool true)], args := [d1, d2] }
  | _ => none }
def flowSubmetersRow : OpenClaim := { program := "ytmojlpafpeeelaa", sum := "d657e879a6724011ac8ebae3e2cb716d28b7f852c8686d963d131390bcc0387d", func := "cohousing/cohousinglaw28.FlowSubmeters", spec := "flowSubmeters", unfollowed := true, recurses := true, apart := false }
def FlowSubmetersSaid : Prop := flowSubmetersRow.holds Try.pinned (OpenSpec.ofChange flowSubmetersSpec)

/-- ITS FALSE NEIGHBOUR: 'it returns false'. Refute it at one input. -/
def flowSubmetersWrong : ChangeSpec := { name := "flowSubmeters", fn := fun _ => fun
  | [d1, d2] => { results := [.lit (.bool false)], args := [d1, d2] }
  | _ => none }
def FlowSubmetersWrongFalsely : Prop := flowSubmetersRow.holds Try.pinned (OpenSpec.ofChange flowSubmetersWrong)

/- THE SECOND FORM. 'bulk': how many values and letters a reading holds, each counted each time it is reached (what is shared counts as often as it is met; a slice's spare places count too). A statement '..UptoSaid' is the law's where the arguments, and the package variables that the reading takes, are together of bulk at most 1048576: NARROWER than '..Said'. Prove '..Said' where nothing that the law and all that it calls make is longer than what came in: it says more and counts as full. Else prove '..UptoSaid'. A law counts once. -/
mutual
def uptoBulk {H : Type} : DataW H → Nat
  | .lit (.string bytes) => bytes.length + 1
  | .lit _ => 1
  | .nil => 1
  | .ptr d => uptoBulk d + 1
  | .slice elems spare => uptoBulkAll elems + uptoBulkAll spare + 1
  | .agg parts => uptoBulkAll parts + 1
  | .iface _ d => uptoBulk d + 1
  | .map entries => uptoBulkEntries entries + 1
  | .held _ => 1
def uptoBulkAll {H : Type} : List (DataW H) → Nat
  | [] => 0
  | d :: r => uptoBulk d + uptoBulkAll r
def uptoBulkEntries {H : Type} : List (Lit × DataW H) → Nat
  | [] => 0
  | x :: r => uptoBulkEntry x + uptoBulkEntries r
def uptoBulkEntry {H : Type} : Lit × DataW H → Nat
  | (.string bytes, d) => bytes.length + uptoBulk d + 1
  | (_, d) => uptoBulk d + 1
 end
def uptoSmall : (H : Type) → List (DataW H) → Bool := fun _ ds => decide (uptoBulkAll ds ≤ 1048576)
def OpenSpec.upto (s : _root_.Go.ChangeSpec) : _root_.Go.OpenSpec := { _root_.Go.OpenSpec.ofChange s with cond := some uptoSmall }

/-- 'cohousinglaw28.FlowMatchesReference', WHERE WHAT IT READS IS OF BULK AT MOST 1048576: true; the input reads as it did. -/
def flowMatchesReferenceUptoRow : OpenClaim := { program := "ytmojlpafpeeelaa", sum := "d657e879a6724011ac8ebae3e2cb716d28b7f852c8686d963d131390bcc0387d", func := "cohousing/cohousinglaw28.FlowMatchesReference", spec := "flowMatchesReference", unfollowed := true, recurses := true, apart := false, narrowed := true }
def FlowMatchesReferenceUptoSaid : Prop := flowMatchesReferenceUptoRow.holds Try.pinned (OpenSpec.upto flowMatchesReferenceSpec)

/-- 'cohousinglaw28.FlowExact', WHERE WHAT IT READS IS OF BULK AT MOST 1048576: true; the input reads as it did. -/
def flowExactUptoRow : OpenClaim := { program := "ytmojlpafpeeelaa", sum := "d657e879a6724011ac8ebae3e2cb716d28b7f852c8686d963d131390bcc0387d", func := "cohousing/cohousinglaw28.FlowExact", spec := "flowExact", unfollowed := true, recurses := true, apart := false, narrowed := true }
def FlowExactUptoSaid : Prop := flowExactUptoRow.holds Try.pinned (OpenSpec.upto flowExactSpec)

/-- 'cohousinglaw28.FlowWithin', WHERE WHAT IT READS IS OF BULK AT MOST 1048576: true; the input reads as it did. -/
def flowWithinUptoRow : OpenClaim := { program := "ytmojlpafpeeelaa", sum := "d657e879a6724011ac8ebae3e2cb716d28b7f852c8686d963d131390bcc0387d", func := "cohousing/cohousinglaw28.FlowWithin", spec := "flowWithin", unfollowed := true, recurses := true, apart := false, narrowed := true }
def FlowWithinUptoSaid : Prop := flowWithinUptoRow.holds Try.pinned (OpenSpec.upto flowWithinSpec)

/-- 'cohousinglaw28.FlowKnowledge', WHERE WHAT IT READS IS OF BULK AT MOST 1048576: true; the input reads as it did. -/
def flowKnowledgeUptoRow : OpenClaim := { program := "ytmojlpafpeeelaa", sum := "d657e879a6724011ac8ebae3e2cb716d28b7f852c8686d963d131390bcc0387d", func := "cohousing/cohousinglaw28.FlowKnowledge", spec := "flowKnowledge", unfollowed := true, recurses := true, apart := false, narrowed := true }
def FlowKnowledgeUptoSaid : Prop := flowKnowledgeUptoRow.holds Try.pinned (OpenSpec.upto flowKnowledgeSpec)

/-- 'cohousinglaw28.FlowSums', WHERE WHAT IT READS IS OF BULK AT MOST 1048576: true; the input reads as it did. -/
def flowSumsUptoRow : OpenClaim := { program := "ytmojlpafpeeelaa", sum := "d657e879a6724011ac8ebae3e2cb716d28b7f852c8686d963d131390bcc0387d", func := "cohousing/cohousinglaw28.FlowSums", spec := "flowSums", unfollowed := true, recurses := true, apart := false, narrowed := true }
def FlowSumsUptoSaid : Prop := flowSumsUptoRow.holds Try.pinned (OpenSpec.upto flowSumsSpec)

/-- 'cohousinglaw28.FlowFirst', WHERE WHAT IT READS IS OF BULK AT MOST 1048576: true; the input reads as it did. -/
def flowFirstUptoRow : OpenClaim := { program := "ytmojlpafpeeelaa", sum := "d657e879a6724011ac8ebae3e2cb716d28b7f852c8686d963d131390bcc0387d", func := "cohousing/cohousinglaw28.FlowFirst", spec := "flowFirst", unfollowed := true, recurses := true, apart := false, narrowed := true }
def FlowFirstUptoSaid : Prop := flowFirstUptoRow.holds Try.pinned (OpenSpec.upto flowFirstSpec)

/-- 'cohousinglaw28.FlowSubmeters', WHERE WHAT IT READS IS OF BULK AT MOST 1048576: true; the input reads as it did. -/
def flowSubmetersUptoRow : OpenClaim := { program := "ytmojlpafpeeelaa", sum := "d657e879a6724011ac8ebae3e2cb716d28b7f852c8686d963d131390bcc0387d", func := "cohousing/cohousinglaw28.FlowSubmeters", spec := "flowSubmeters", unfollowed := true, recurses := true, apart := false, narrowed := true }
def FlowSubmetersUptoSaid : Prop := flowSubmetersUptoRow.holds Try.pinned (OpenSpec.upto flowSubmetersSpec)

end Rows
end Go.Proofs.Ytmojlpafpeeelaa
