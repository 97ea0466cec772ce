/-
  No cell of these rows narrows 'for every input' (looked for: loops, veiled, ifaces, maps, wideKeys, modest, calm, conditions, laid).
  DERIVED. THE GIVEN ROWS OF THIS SEAT. 5 by the template 'for every input the law returns true; each argument reads behind the call as it read before'; 0 by the template 'total and deterministic' (their statements: YtokblidfekbeeaaTotals.lean).
  GIVEN WITH THE SEED: the statements are not yours to turn. If you find one false, say at which input.
  Laid BY PROGRAM, IN A SANDBOX (cutbox-rows.mjs): the forced cells as the released guide's own fill.sh prints them over the translation c6a04c050f5d0a76… (all of the seat's roots in one cut). By AI agents, Wed Nov 11 2026. No macro, syntax, notation, axiom, sorry.
-/
import Derived.Test.YtokblidfekbeeaaChecked
import GoSem.Claim
import GoSem.ClaimJoined
import GoSem.ClaimMapViews
import Derived.JoinedTies
import Derived.KernelRfl
namespace Go.Proofs.Ytokblidfekbeeaa
/- THE CELL 'sum', in the pinned program and in every row, IS THE sha256 OF THE DUMP (.gsa) THAT YtokblidfekbeeaaProg.lean LOADS. Nothing in Lean hashes anything: it is a label: what it is worth is what the hold of that sum in a sandbox is worth. -/
noncomputable def Try.pinned : Pinned := { name := "ytokblidfekbeeaa", sum := "c6a04c050f5d0a7649787e0a6f76b941c59091d7cd5a820403a6ca51f0b71c7b", checked := Try.checked }
namespace Rows
def none {H : Type} : Left H := { results := [], args := [] }

/-- 'cellplanelaw10.QuorumNew': WHATEVER THE INPUT: true; the input reads as it did. -/
def quorumNewSpec : ChangeSpec := { name := "quorumNew", fn := fun _ => fun
  | [d] => { results := [.lit (.bool true)], args := [d] }
  | _ => none }
def quorumNewRow : OpenClaim := { program := "ytokblidfekbeeaa", sum := "c6a04c050f5d0a7649787e0a6f76b941c59091d7cd5a820403a6ca51f0b71c7b", func := "cellplane/cellplanelaw10.QuorumNew", spec := "quorumNew", unfollowed := true, recurses := true, apart := false }
def QuorumNewSaid : Prop := quorumNewRow.holds Try.pinned (OpenSpec.ofChange quorumNewSpec)

/-- ITS FALSE NEIGHBOUR: 'it returns false'. Refute it at one input. -/
def quorumNewWrong : ChangeSpec := { name := "quorumNew", fn := fun _ => fun
  | [d] => { results := [.lit (.bool false)], args := [d] }
  | _ => none }
def QuorumNewWrongFalsely : Prop := quorumNewRow.holds Try.pinned (OpenSpec.ofChange quorumNewWrong)

/-- 'cellplanelaw10.QuorumMatches': WHATEVER THE INPUT: true; the input reads as it did. -/
def quorumMatchesSpec : ChangeSpec := { name := "quorumMatches", fn := fun _ => fun
  | [d1, d2] => { results := [.lit (.bool true)], args := [d1, d2] }
  | _ => none }
def quorumMatchesRow : OpenClaim := { program := "ytokblidfekbeeaa", sum := "c6a04c050f5d0a7649787e0a6f76b941c59091d7cd5a820403a6ca51f0b71c7b", func := "cellplane/cellplanelaw10.QuorumMatches", spec := "quorumMatches", unfollowed := true, recurses := true, apart := false }
def QuorumMatchesSaid : Prop := quorumMatchesRow.holds Try.pinned (OpenSpec.ofChange quorumMatchesSpec)

/-- ITS FALSE NEIGHBOUR: 'it returns false'. Refute it at one input. -/
def quorumMatchesWrong : ChangeSpec := { name := "quorumMatches", fn := fun _ => fun
  | [d1, d2] => { results := [.lit (.bool false)], args := [d1, d2] }
  | _ => none }
def QuorumMatchesWrongFalsely : Prop := quorumMatchesRow.holds Try.pinned (OpenSpec.ofChange quorumMatchesWrong)

/-- 'cellplanelaw10.QuorumAgrees': WHATEVER THE INPUT: true; the input reads as it did. -/
def quorumAgreesSpec : ChangeSpec := { name := "quorumAgrees", fn := fun _ => fun
  | [d1, d2] => { results := [.lit (.bool true)], args := [d1, d2] }
  | _ => none }
def quorumAgreesRow : OpenClaim := { program := "ytokblidfekbeeaa", sum := "c6a04c050f5d0a7649787e0a6f76b941c59091d7cd5a820403a6ca51f0b71c7b", func := "cellplane/cellplanelaw10.QuorumAgrees", spec := "quorumAgrees", unfollowed := true, recurses := true, apart := false }
def QuorumAgreesSaid : Prop := quorumAgreesRow.holds Try.pinned (OpenSpec.ofChange quorumAgreesSpec)

/-- ITS FALSE NEIGHBOUR: 'it returns false'. Refute it at one input. -/
def quorumAgreesWrong : ChangeSpec := { name := "quorumAgrees", fn := fun _ => fun
  | [d1, d2] => { results := [.lit (.bool false)], args := [d1, d2] }
  | _ => none }
def QuorumAgreesWrongFalsely : Prop := quorumAgreesRow.holds Try.pinned (OpenSpec.ofChange quorumAgreesWrong)

/-- 'cellplanelaw10.QuorumLeads': WHATEVER THE INPUT: true; the input reads as it did. -/
def quorumLeadsSpec : ChangeSpec := { name := "quorumLeads", fn := fun _ => fun
  | [d1, d2] => { results := [.lit (.bool true)], args := [d1, d2] }
  | _ => none }
def quorumLeadsRow : OpenClaim := { program := "ytokblidfekbeeaa", sum := "c6a04c050f5d0a7649787e0a6f76b941c59091d7cd5a820403a6ca51f0b71c7b", func := "cellplane/cellplanelaw10.QuorumLeads", spec := "quorumLeads", unfollowed := true, recurses := true, apart := false }
def QuorumLeadsSaid : Prop := quorumLeadsRow.holds Try.pinned (OpenSpec.ofChange quorumLeadsSpec)

/-- ITS FALSE NEIGHBOUR: 'it returns false'. Refute it at one input. -/
def quorumLeadsWrong : ChangeSpec := { name := "quorumLeads", fn := fun _ => fun
  | [d1, d2] => { results := [.lit (.bool false)], args := [d1, d2] }
  | _ => none }
def QuorumLeadsWrongFalsely : Prop := quorumLeadsRow.holds Try.pinned (OpenSpec.ofChange quorumLeadsWrong)

/-- 'cellplanelaw10.QuorumCommits': WHATEVER THE INPUT: true; the input reads as it did. -/
def quorumCommitsSpec : ChangeSpec := { name := "quorumCommits", fn := fun _ => fun
  | [d1, d2, d3] => { results := [.lit (.bool true)], args := [d1, d2, d3] }
  | _ => none }
def quorumCommitsRow : OpenClaim := { program := "ytokblidfekbeeaa", sum := "c6a04c050f5d0a7649787e0a6f76b941c59091d7cd5a820403a6ca51f0b71c7b", func := "cellplane/cellplanelaw10.QuorumCommits", spec := "quorumCommits", unfollowed := true, recurses := true, apart := false }
def QuorumCommitsSaid : Prop := quorumCommitsRow.holds Try.pinned (OpenSpec.ofChange quorumCommitsSpec)

/-- ITS FALSE NEIGHBOUR: 'it returns false'. Refute it at one input. -/
def quorumCommitsWrong : ChangeSpec := { name := "quorumCommits", fn := fun _ => fun
  | [d1, d2, d3] => { results := [.lit (.bool false)], args := [d1, d2, d3] }
  | _ => none }
def QuorumCommitsWrongFalsely : Prop := quorumCommitsRow.holds Try.pinned (OpenSpec.ofChange quorumCommitsWrong)

/- THE SECOND FORM. 'bulk': how many values and letters a reading holds, each counted each time it is reached (what is shared counts as often as it is met; a slice's spare places count too). A statement '..UptoSaid' is the law's where the arguments, and the package variables that the reading takes, are together of bulk at most 1048576: NARROWER than '..Said'. Prove '..Said' where nothing that the law and all that it calls make is longer than what came in: it says more and counts as full. Else prove '..UptoSaid'. A law counts once. -/
mutual
def uptoBulk {H : Type} : DataW H → Nat
  | .lit (.string bytes) => bytes.length + 1
  | .lit _ => 1
  | .nil => 1
  | .ptr d => uptoBulk d + 1
  | .slice elems spare => uptoBulkAll elems + uptoBulkAll spare + 1
  | .agg parts => uptoBulkAll parts + 1
  | .iface _ d => uptoBulk d + 1
  | .map entries => uptoBulkEntries entries + 1
  | .held _ => 1
def uptoBulkAll {H : Type} : List (DataW H) → Nat
  | [] => 0
  | d :: r => uptoBulk d + uptoBulkAll r
def uptoBulkEntries {H : Type} : List (Lit × DataW H) → Nat
  | [] => 0
  | x :: r => uptoBulkEntry x + uptoBulkEntries r
def uptoBulkEntry {H : Type} : Lit × DataW H → Nat
  | (.string bytes, d) => bytes.length + uptoBulk d + 1
  | (_, d) => uptoBulk d + 1
 end
def uptoSmall : (H : Type) → List (DataW H) → Bool := fun _ ds => decide (uptoBulkAll ds ≤ 1048576)
def OpenSpec.upto (s : _root_.Go.ChangeSpec) : _root_.Go.OpenSpec := { _root_.Go.OpenSpec.ofChange s with cond := some uptoSmall }

/-- 'cellplanelaw10.QuorumNew', WHERE WHAT IT READS IS OF BULK AT MOST 1048576: true; the input reads as it did. -/
def quorumNewUptoRow : OpenClaim := { program := "ytokblidfekbeeaa", sum := "c6a04c050f5d0a7649787e0a6f76b941c59091d7cd5a820403a6ca51f0b71c7b", func := "cellplane/cellplanelaw10.QuorumNew", spec := "quorumNew", unfollowed := true, recurses := true, apart := false, narrowed := true }
def QuorumNewUptoSaid : Prop := quorumNewUptoRow.holds Try.pinned (OpenSpec.upto quorumNewSpec)

/-- 'cellplanelaw10.QuorumMatches', WHERE WHAT IT READS IS OF BULK AT MOST 1048576: true; the input reads as it did. -/
def quorumMatchesUptoRow : OpenClaim := { program := "ytokblidfekbeeaa", sum := "c6a04c050f5d0a7649787e0a6f76b941c59091d7cd5a820403a6ca51f0b71c7b", func := "cellplane/cellplanelaw10.QuorumMatches", spec := "quorumMatches", unfollowed := true, recurses := true, apart := false, narrowed := true }
def QuorumMatchesUptoSaid : Prop := quorumMatchesUptoRow.holds Try.pinned (OpenSpec.upto quorumMatchesSpec)

/-- 'cellplanelaw10.QuorumAgrees', WHERE WHAT IT READS IS OF BULK AT MOST 1048576: true; the input reads as it did. -/
def quorumAgreesUptoRow : OpenClaim := { program := "ytokblidfekbeeaa", sum := "c6a04c050f5d0a7649787e0a6f76b941c59091d7cd5a820403a6ca51f0b71c7b", func := "cellplane/cellplanelaw10.QuorumAgrees", spec := "quorumAgrees", unfollowed := true, recurses := true, apart := false, narrowed := true }
def QuorumAgreesUptoSaid : Prop := quorumAgreesUptoRow.holds Try.pinned (OpenSpec.upto quorumAgreesSpec)

/-- 'cellplanelaw10.QuorumLeads', WHERE WHAT IT READS IS OF BULK AT MOST 1048576: true; the input reads as it did. -/
def quorumLeadsUptoRow : OpenClaim := { program := "ytokblidfekbeeaa", sum := "c6a04c050f5d0a7649787e0a6f76b941c59091d7cd5a820403a6ca51f0b71c7b", func := "cellplane/cellplanelaw10.QuorumLeads", spec := "quorumLeads", unfollowed := true, recurses := true, apart := false, narrowed := true }
def QuorumLeadsUptoSaid : Prop := quorumLeadsUptoRow.holds Try.pinned (OpenSpec.upto quorumLeadsSpec)

/-- 'cellplanelaw10.QuorumCommits', WHERE WHAT IT READS IS OF BULK AT MOST 1048576: true; the input reads as it did. -/
def quorumCommitsUptoRow : OpenClaim := { program := "ytokblidfekbeeaa", sum := "c6a04c050f5d0a7649787e0a6f76b941c59091d7cd5a820403a6ca51f0b71c7b", func := "cellplane/cellplanelaw10.QuorumCommits", spec := "quorumCommits", unfollowed := true, recurses := true, apart := false, narrowed := true }
def QuorumCommitsUptoSaid : Prop := quorumCommitsUptoRow.holds Try.pinned (OpenSpec.upto quorumCommitsSpec)

end Rows
end Go.Proofs.Ytokblidfekbeeaa
