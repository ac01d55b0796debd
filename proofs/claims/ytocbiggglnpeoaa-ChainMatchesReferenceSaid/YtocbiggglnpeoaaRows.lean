/-
  No cell of these rows narrows 'for every input' (looked for: loops, veiled, ifaces, maps, wideKeys, modest, calm, conditions, laid).
  DERIVED. THE GIVEN ROWS OF THIS SEAT. 7 by the template 'for every input the law returns true; each argument reads behind the call as it read before'; 0 by the template 'total and deterministic' (their statements: YtocbiggglnpeoaaTotals.lean).
  GIVEN WITH THE SEED: the statements are not yours to turn. If you find one false, say at which input.
  Laid BY PROGRAM, IN A SANDBOX (cutbox-rows.mjs): the forced cells as the released guide's own fill.sh prints them over the translation 13730dc050fa9dd9… (all of the seat's roots in one cut). By AI agents, Wed Nov 11 2026. No macro, syntax, notation, axiom, sorry.
-/
import Derived.Test.YtocbiggglnpeoaaChecked
import GoSem.Claim
import GoSem.ClaimJoined
import GoSem.ClaimMapViews
import Derived.JoinedTies
import Derived.KernelRfl
namespace Go.Proofs.Ytocbiggglnpeoaa
/- THE CELL 'sum', in the pinned program and in every row, IS THE sha256 OF THE DUMP (.gsa) THAT YtocbiggglnpeoaaProg.lean LOADS. Nothing in Lean hashes anything: it is a label: what it is worth is what the hold of that sum in a sandbox is worth. -/
noncomputable def Try.pinned : Pinned := { name := "ytocbiggglnpeoaa", sum := "13730dc050fa9dd9498f8bc5ba93542549b6bcc05c47fceee5ff196cb7bfa19a", checked := Try.checked }
namespace Rows
def none {H : Type} : Left H := { results := [], args := [] }

/-- 'cohousinglaw26.ChainMatchesReference': WHATEVER THE INPUT: true; the input reads as it did. -/
def chainMatchesReferenceSpec : ChangeSpec := { name := "chainMatchesReference", fn := fun _ => fun
  | [d1, d2, d3, d4, d5, d6] => { results := [.lit (.bool true)], args := [d1, d2, d3, d4, d5, d6] }
  | _ => none }
def chainMatchesReferenceRow : OpenClaim := { program := "ytocbiggglnpeoaa", sum := "13730dc050fa9dd9498f8bc5ba93542549b6bcc05c47fceee5ff196cb7bfa19a", func := "cohousing/cohousinglaw26.ChainMatchesReference", spec := "chainMatchesReference", unfollowed := true, recurses := true, apart := false }
def ChainMatchesReferenceSaid : Prop := chainMatchesReferenceRow.holds Try.pinned (OpenSpec.ofChange chainMatchesReferenceSpec)

/-- ITS FALSE NEIGHBOUR: 'it returns false'. Refute it at one input. -/
def chainMatchesReferenceWrong : ChangeSpec := { name := "chainMatchesReference", fn := fun _ => fun
  | [d1, d2, d3, d4, d5, d6] => { results := [.lit (.bool false)], args := [d1, d2, d3, d4, d5, d6] }
  | _ => none }
def ChainMatchesReferenceWrongFalsely : Prop := chainMatchesReferenceRow.holds Try.pinned (OpenSpec.ofChange chainMatchesReferenceWrong)

/-- 'cohousinglaw26.ChainHomes': WHATEVER THE INPUT: true; the input reads as it did. -/
def chainHomesSpec : ChangeSpec := { name := "chainHomes", fn := fun _ => fun
  | [d1, d2, d3, d4] => { results := [.lit (.bool true)], args := [d1, d2, d3, d4] }
  | _ => none }
def chainHomesRow : OpenClaim := { program := "ytocbiggglnpeoaa", sum := "13730dc050fa9dd9498f8bc5ba93542549b6bcc05c47fceee5ff196cb7bfa19a", func := "cohousing/cohousinglaw26.ChainHomes", spec := "chainHomes", unfollowed := true, recurses := true, apart := false }
def ChainHomesSaid : Prop := chainHomesRow.holds Try.pinned (OpenSpec.ofChange chainHomesSpec)

/-- ITS FALSE NEIGHBOUR: 'it returns false'. Refute it at one input. -/
def chainHomesWrong : ChangeSpec := { name := "chainHomes", fn := fun _ => fun
  | [d1, d2, d3, d4] => { results := [.lit (.bool false)], args := [d1, d2, d3, d4] }
  | _ => none }
def ChainHomesWrongFalsely : Prop := chainHomesRow.holds Try.pinned (OpenSpec.ofChange chainHomesWrong)

/-- 'cohousinglaw26.ChainAgreement': WHATEVER THE INPUT: true; the input reads as it did. -/
def chainAgreementSpec : ChangeSpec := { name := "chainAgreement", fn := fun _ => fun
  | [d1, d2, d3, d4] => { results := [.lit (.bool true)], args := [d1, d2, d3, d4] }
  | _ => none }
def chainAgreementRow : OpenClaim := { program := "ytocbiggglnpeoaa", sum := "13730dc050fa9dd9498f8bc5ba93542549b6bcc05c47fceee5ff196cb7bfa19a", func := "cohousing/cohousinglaw26.ChainAgreement", spec := "chainAgreement", unfollowed := true, recurses := true, apart := false }
def ChainAgreementSaid : Prop := chainAgreementRow.holds Try.pinned (OpenSpec.ofChange chainAgreementSpec)

/-- ITS FALSE NEIGHBOUR: 'it returns false'. Refute it at one input. -/
def chainAgreementWrong : ChangeSpec := { name := "chainAgreement", fn := fun _ => fun
  | [d1, d2, d3, d4] => { results := [.lit (.bool false)], args := [d1, d2, d3, d4] }
  | _ => none }
def ChainAgreementWrongFalsely : Prop := chainAgreementRow.holds Try.pinned (OpenSpec.ofChange chainAgreementWrong)

/-- 'cohousinglaw26.ChainAll': WHATEVER THE INPUT: true; the input reads as it did. -/
def chainAllSpec : ChangeSpec := { name := "chainAll", fn := fun _ => fun
  | [d1, d2, d3] => { results := [.lit (.bool true)], args := [d1, d2, d3] }
  | _ => none }
def chainAllRow : OpenClaim := { program := "ytocbiggglnpeoaa", sum := "13730dc050fa9dd9498f8bc5ba93542549b6bcc05c47fceee5ff196cb7bfa19a", func := "cohousing/cohousinglaw26.ChainAll", spec := "chainAll", unfollowed := true, recurses := true, apart := false }
def ChainAllSaid : Prop := chainAllRow.holds Try.pinned (OpenSpec.ofChange chainAllSpec)

/-- ITS FALSE NEIGHBOUR: 'it returns false'. Refute it at one input. -/
def chainAllWrong : ChangeSpec := { name := "chainAll", fn := fun _ => fun
  | [d1, d2, d3] => { results := [.lit (.bool false)], args := [d1, d2, d3] }
  | _ => none }
def ChainAllWrongFalsely : Prop := chainAllRow.holds Try.pinned (OpenSpec.ofChange chainAllWrong)

/-- 'cohousinglaw26.ChainLate': WHATEVER THE INPUT: true; the input reads as it did. -/
def chainLateSpec : ChangeSpec := { name := "chainLate", fn := fun _ => fun
  | [d1, d2, d3, d4, d5] => { results := [.lit (.bool true)], args := [d1, d2, d3, d4, d5] }
  | _ => none }
def chainLateRow : OpenClaim := { program := "ytocbiggglnpeoaa", sum := "13730dc050fa9dd9498f8bc5ba93542549b6bcc05c47fceee5ff196cb7bfa19a", func := "cohousing/cohousinglaw26.ChainLate", spec := "chainLate", unfollowed := true, recurses := true, apart := false }
def ChainLateSaid : Prop := chainLateRow.holds Try.pinned (OpenSpec.ofChange chainLateSpec)

/-- ITS FALSE NEIGHBOUR: 'it returns false'. Refute it at one input. -/
def chainLateWrong : ChangeSpec := { name := "chainLate", fn := fun _ => fun
  | [d1, d2, d3, d4, d5] => { results := [.lit (.bool false)], args := [d1, d2, d3, d4, d5] }
  | _ => none }
def ChainLateWrongFalsely : Prop := chainLateRow.holds Try.pinned (OpenSpec.ofChange chainLateWrong)

/-- 'cohousinglaw26.ChainNext': WHATEVER THE INPUT: true; the input reads as it did. -/
def chainNextSpec : ChangeSpec := { name := "chainNext", fn := fun _ => fun
  | [d1, d2, d3] => { results := [.lit (.bool true)], args := [d1, d2, d3] }
  | _ => none }
def chainNextRow : OpenClaim := { program := "ytocbiggglnpeoaa", sum := "13730dc050fa9dd9498f8bc5ba93542549b6bcc05c47fceee5ff196cb7bfa19a", func := "cohousing/cohousinglaw26.ChainNext", spec := "chainNext", unfollowed := true, recurses := true, apart := false }
def ChainNextSaid : Prop := chainNextRow.holds Try.pinned (OpenSpec.ofChange chainNextSpec)

/-- ITS FALSE NEIGHBOUR: 'it returns false'. Refute it at one input. -/
def chainNextWrong : ChangeSpec := { name := "chainNext", fn := fun _ => fun
  | [d1, d2, d3] => { results := [.lit (.bool false)], args := [d1, d2, d3] }
  | _ => none }
def ChainNextWrongFalsely : Prop := chainNextRow.holds Try.pinned (OpenSpec.ofChange chainNextWrong)

/-- 'cohousinglaw26.ChainNotWorse': WHATEVER THE INPUT: true; the input reads as it did. -/
def chainNotWorseSpec : ChangeSpec := { name := "chainNotWorse", fn := fun _ => fun
  | [d1, d2, d3, d4] => { results := [.lit (.bool true)], args := [d1, d2, d3, d4] }
  | _ => none }
def chainNotWorseRow : OpenClaim := { program := "ytocbiggglnpeoaa", sum := "13730dc050fa9dd9498f8bc5ba93542549b6bcc05c47fceee5ff196cb7bfa19a", func := "cohousing/cohousinglaw26.ChainNotWorse", spec := "chainNotWorse", unfollowed := true, recurses := true, apart := false }
def ChainNotWorseSaid : Prop := chainNotWorseRow.holds Try.pinned (OpenSpec.ofChange chainNotWorseSpec)

/-- ITS FALSE NEIGHBOUR: 'it returns false'. Refute it at one input. -/
def chainNotWorseWrong : ChangeSpec := { name := "chainNotWorse", fn := fun _ => fun
  | [d1, d2, d3, d4] => { results := [.lit (.bool false)], args := [d1, d2, d3, d4] }
  | _ => none }
def ChainNotWorseWrongFalsely : Prop := chainNotWorseRow.holds Try.pinned (OpenSpec.ofChange chainNotWorseWrong)

/- THE SECOND FORM. 'bulk': how many values and letters a reading holds, each counted each time it is reached (what is shared counts as often as it is met; a slice's spare places count too). A statement '..UptoSaid' is the law's where the arguments, and the package variables that the reading takes, are together of bulk at most 1048576: NARROWER than '..Said'. Prove '..Said' where nothing that the law and all that it calls make is longer than what came in: it says more and counts as full. Else prove '..UptoSaid'. A law counts once. -/
mutual
def uptoBulk {H : Type} : DataW H → Nat
  | .lit (.string bytes) => bytes.length + 1
  | .lit _ => 1
  | .nil => 1
  | .ptr d => uptoBulk d + 1
  | .slice elems spare => uptoBulkAll elems + uptoBulkAll spare + 1
  | .agg parts => uptoBulkAll parts + 1
  | .iface _ d => uptoBulk d + 1
  | .map entries => uptoBulkEntries entries + 1
  | .held _ => 1
def uptoBulkAll {H : Type} : List (DataW H) → Nat
  | [] => 0
  | d :: r => uptoBulk d + uptoBulkAll r
def uptoBulkEntries {H : Type} : List (Lit × DataW H) → Nat
  | [] => 0
  | x :: r => uptoBulkEntry x + uptoBulkEntries r
def uptoBulkEntry {H : Type} : Lit × DataW H → Nat
  | (.string bytes, d) => bytes.length + uptoBulk d + 1
  | (_, d) => uptoBulk d + 1
 end
def uptoSmall : (H : Type) → List (DataW H) → Bool := fun _ ds => decide (uptoBulkAll ds ≤ 1048576)
def OpenSpec.upto (s : _root_.Go.ChangeSpec) : _root_.Go.OpenSpec := { _root_.Go.OpenSpec.ofChange s with cond := some uptoSmall }

/-- 'cohousinglaw26.ChainMatchesReference', WHERE WHAT IT READS IS OF BULK AT MOST 1048576: true; the input reads as it did. -/
def chainMatchesReferenceUptoRow : OpenClaim := { program := "ytocbiggglnpeoaa", sum := "13730dc050fa9dd9498f8bc5ba93542549b6bcc05c47fceee5ff196cb7bfa19a", func := "cohousing/cohousinglaw26.ChainMatchesReference", spec := "chainMatchesReference", unfollowed := true, recurses := true, apart := false, narrowed := true }
def ChainMatchesReferenceUptoSaid : Prop := chainMatchesReferenceUptoRow.holds Try.pinned (OpenSpec.upto chainMatchesReferenceSpec)

/-- 'cohousinglaw26.ChainHomes', WHERE WHAT IT READS IS OF BULK AT MOST 1048576: true; the input reads as it did. -/
def chainHomesUptoRow : OpenClaim := { program := "ytocbiggglnpeoaa", sum := "13730dc050fa9dd9498f8bc5ba93542549b6bcc05c47fceee5ff196cb7bfa19a", func := "cohousing/cohousinglaw26.ChainHomes", spec := "chainHomes", unfollowed := true, recurses := true, apart := false, narrowed := true }
def ChainHomesUptoSaid : Prop := chainHomesUptoRow.holds Try.pinned (OpenSpec.upto chainHomesSpec)

/-- 'cohousinglaw26.ChainAgreement', WHERE WHAT IT READS IS OF BULK AT MOST 1048576: true; the input reads as it did. -/
def chainAgreementUptoRow : OpenClaim := { program := "ytocbiggglnpeoaa", sum := "13730dc050fa9dd9498f8bc5ba93542549b6bcc05c47fceee5ff196cb7bfa19a", func := "cohousing/cohousinglaw26.ChainAgreement", spec := "chainAgreement", unfollowed := true, recurses := true, apart := false, narrowed := true }
def ChainAgreementUptoSaid : Prop := chainAgreementUptoRow.holds Try.pinned (OpenSpec.upto chainAgreementSpec)

/-- 'cohousinglaw26.ChainAll', WHERE WHAT IT READS IS OF BULK AT MOST 1048576: true; the input reads as it did. -/
def chainAllUptoRow : OpenClaim := { program := "ytocbiggglnpeoaa", sum := "13730dc050fa9dd9498f8bc5ba93542549b6bcc05c47fceee5ff196cb7bfa19a", func := "cohousing/cohousinglaw26.ChainAll", spec := "chainAll", unfollowed := true, recurses := true, apart := false, narrowed := true }
def ChainAllUptoSaid : Prop := chainAllUptoRow.holds Try.pinned (OpenSpec.upto chainAllSpec)

/-- 'cohousinglaw26.ChainLate', WHERE WHAT IT READS IS OF BULK AT MOST 1048576: true; the input reads as it did. -/
def chainLateUptoRow : OpenClaim := { program := "ytocbiggglnpeoaa", sum := "13730dc050fa9dd9498f8bc5ba93542549b6bcc05c47fceee5ff196cb7bfa19a", func := "cohousing/cohousinglaw26.ChainLate", spec := "chainLate", unfollowed := true, recurses := true, apart := false, narrowed := true }
def ChainLateUptoSaid : Prop := chainLateUptoRow.holds Try.pinned (OpenSpec.upto chainLateSpec)

/-- 'cohousinglaw26.ChainNext', WHERE WHAT IT READS IS OF BULK AT MOST 1048576: true; the input reads as it did. -/
def chainNextUptoRow : OpenClaim := { program := "ytocbiggglnpeoaa", sum := "13730dc050fa9dd9498f8bc5ba93542549b6bcc05c47fceee5ff196cb7bfa19a", func := "cohousing/cohousinglaw26.ChainNext", spec := "chainNext", unfollowed := true, recurses := true, apart := false, narrowed := true }
def ChainNextUptoSaid : Prop := chainNextUptoRow.holds Try.pinned (OpenSpec.upto chainNextSpec)

/-- 'cohousinglaw26.ChainNotWorse', WHERE WHAT IT READS IS OF BULK AT MOST 1048576: true; the input reads as it did. -/
def chainNotWorseUptoRow : OpenClaim := { program := "ytocbiggglnpeoaa", sum := "13730dc050fa9dd9498f8bc5ba93542549b6bcc05c47fceee5ff196cb7bfa19a", func := "cohousing/cohousinglaw26.ChainNotWorse", spec := "chainNotWorse", unfollowed := true, recurses := true, apart := false, narrowed := true }
def ChainNotWorseUptoSaid : Prop := chainNotWorseUptoRow.holds Try.pinned (OpenSpec.upto chainNotWorseSpec)

end Rows
end Go.Proofs.Ytocbiggglnpeoaa
