/-
  No cell of these rows narrows 'for every input' (looked for: loops, veiled, ifaces, maps, wideKeys, modest, calm, conditions, laid).
  DERIVED. THE GIVEN ROWS OF THIS SEAT. 4 by the template 'for every input the law returns true; each argument reads behind the call as it read before'; 0 by the template 'total and deterministic' (their statements: YtjnfmfmglehmbaaGreatTotals.lean).
  GIVEN WITH THE SEED: the statements are not yours to turn. If you find one false, say at which input.
  Laid BY PROGRAM, IN A SANDBOX (cutbox-rows.mjs): the forced cells as the released guide's own fill.sh prints them over the translation 503b4da73bdf1f8d… (all of the seat's roots in one cut). By AI agents, Wed Nov 11 2026. No macro, syntax, notation, axiom, sorry.
-/
import Derived.Test.YtjnfmfmglehmbaaGreatChecked
import GoSem.Claim
import GoSem.ClaimJoined
import GoSem.ClaimMapViews
import Derived.JoinedTies
import Derived.KernelRfl
namespace Go.Proofs.YtjnfmfmglehmbaaGreat
/- THE CELL 'sum', in the pinned program and in every row, IS THE sha256 OF THE DUMP (.gsa) THAT YtjnfmfmglehmbaaGreatProg.lean LOADS. Nothing in Lean hashes anything: it is a label: what it is worth is what the hold of that sum in a sandbox is worth. -/
noncomputable def Tryz.pinned : Pinned := { name := "ytjnfmfmglehmbaagreat", sum := "503b4da73bdf1f8d27283b56b05d36cf9933ffd2ddee445091738ac481081eff", checked := Tryz.checked }
namespace Rows
def none {H : Type} : Left H := { results := [], args := [] }

/-- 'cellplanelaw09.ReplicaVotes': WHATEVER THE INPUT: true; the input reads as it did. -/
def replicaVotesSpec : ChangeSpec := { name := "replicaVotes", fn := fun _ => fun
  | [d1, d2] => { results := [.lit (.bool true)], args := [d1, d2] }
  | _ => none }
def replicaVotesRow : OpenClaim := { program := "ytjnfmfmglehmbaagreat", sum := "503b4da73bdf1f8d27283b56b05d36cf9933ffd2ddee445091738ac481081eff", func := "cellplane/cellplanelaw09.ReplicaVotes", spec := "replicaVotes", unfollowed := true, recurses := true, apart := false }
def ReplicaVotesSaid : Prop := replicaVotesRow.holds Tryz.pinned (OpenSpec.ofChange replicaVotesSpec)

/-- ITS FALSE NEIGHBOUR: 'it returns false'. Refute it at one input. -/
def replicaVotesWrong : ChangeSpec := { name := "replicaVotes", fn := fun _ => fun
  | [d1, d2] => { results := [.lit (.bool false)], args := [d1, d2] }
  | _ => none }
def ReplicaVotesWrongFalsely : Prop := replicaVotesRow.holds Tryz.pinned (OpenSpec.ofChange replicaVotesWrong)

/-- 'cellplanelaw09.ReplicaCopies': WHATEVER THE INPUT: true; the input reads as it did. -/
def replicaCopiesSpec : ChangeSpec := { name := "replicaCopies", fn := fun _ => fun
  | [d1, d2, d3] => { results := [.lit (.bool true)], args := [d1, d2, d3] }
  | _ => none }
def replicaCopiesRow : OpenClaim := { program := "ytjnfmfmglehmbaagreat", sum := "503b4da73bdf1f8d27283b56b05d36cf9933ffd2ddee445091738ac481081eff", func := "cellplane/cellplanelaw09.ReplicaCopies", spec := "replicaCopies", unfollowed := true, recurses := true, apart := false }
def ReplicaCopiesSaid : Prop := replicaCopiesRow.holds Tryz.pinned (OpenSpec.ofChange replicaCopiesSpec)

/-- ITS FALSE NEIGHBOUR: 'it returns false'. Refute it at one input. -/
def replicaCopiesWrong : ChangeSpec := { name := "replicaCopies", fn := fun _ => fun
  | [d1, d2, d3] => { results := [.lit (.bool false)], args := [d1, d2, d3] }
  | _ => none }
def ReplicaCopiesWrongFalsely : Prop := replicaCopiesRow.holds Tryz.pinned (OpenSpec.ofChange replicaCopiesWrong)

/-- 'cellplanelaw10.QuorumPlays': WHATEVER THE INPUT: true; the input reads as it did. -/
def quorumPlaysSpec : ChangeSpec := { name := "quorumPlays", fn := fun _ => fun
  | [d1, d2, d3] => { results := [.lit (.bool true)], args := [d1, d2, d3] }
  | _ => none }
def quorumPlaysRow : OpenClaim := { program := "ytjnfmfmglehmbaagreat", sum := "503b4da73bdf1f8d27283b56b05d36cf9933ffd2ddee445091738ac481081eff", func := "cellplane/cellplanelaw10.QuorumPlays", spec := "quorumPlays", unfollowed := true, recurses := true, apart := false }
def QuorumPlaysSaid : Prop := quorumPlaysRow.holds Tryz.pinned (OpenSpec.ofChange quorumPlaysSpec)

/-- ITS FALSE NEIGHBOUR: 'it returns false'. Refute it at one input. -/
def quorumPlaysWrong : ChangeSpec := { name := "quorumPlays", fn := fun _ => fun
  | [d1, d2, d3] => { results := [.lit (.bool false)], args := [d1, d2, d3] }
  | _ => none }
def QuorumPlaysWrongFalsely : Prop := quorumPlaysRow.holds Tryz.pinned (OpenSpec.ofChange quorumPlaysWrong)

/-- 'cellplanelaw10.QuorumCopies': WHATEVER THE INPUT: true; the input reads as it did. -/
def quorumCopiesSpec : ChangeSpec := { name := "quorumCopies", fn := fun _ => fun
  | [d1, d2, d3] => { results := [.lit (.bool true)], args := [d1, d2, d3] }
  | _ => none }
def quorumCopiesRow : OpenClaim := { program := "ytjnfmfmglehmbaagreat", sum := "503b4da73bdf1f8d27283b56b05d36cf9933ffd2ddee445091738ac481081eff", func := "cellplane/cellplanelaw10.QuorumCopies", spec := "quorumCopies", unfollowed := true, recurses := true, apart := false }
def QuorumCopiesSaid : Prop := quorumCopiesRow.holds Tryz.pinned (OpenSpec.ofChange quorumCopiesSpec)

/-- ITS FALSE NEIGHBOUR: 'it returns false'. Refute it at one input. -/
def quorumCopiesWrong : ChangeSpec := { name := "quorumCopies", fn := fun _ => fun
  | [d1, d2, d3] => { results := [.lit (.bool false)], args := [d1, d2, d3] }
  | _ => none }
def QuorumCopiesWrongFalsely : Prop := quorumCopiesRow.holds Tryz.pinned (OpenSpec.ofChange quorumCopiesWrong)

/- THE SECOND FORM. 'bulk': how many values and letters a reading holds, each counted each time it is reached (what is shared counts as often as it is met; a slice's spare places count too). A statement '..UptoSaid' is the law's where the arguments, and the package variables that the reading takes, are together of bulk at most 1048576: NARROWER than '..Said'. Prove '..Said' where nothing that the law and all that it calls make is longer than what came in: it says more and counts as full. Else prove '..UptoSaid'. A law counts once. -/
mutual
def uptoBulk {H : Type} : DataW H → Nat
  | .lit (.string bytes) => bytes.length + 1
  | .lit _ => 1
  | .nil => 1
  | .ptr d => uptoBulk d + 1
  | .slice elems spare => uptoBulkAll elems + uptoBulkAll spare + 1
  | .agg parts => uptoBulkAll parts + 1
  | .iface _ d => uptoBulk d + 1
  | .map entries => uptoBulkEntries entries + 1
  | .held _ => 1
def uptoBulkAll {H : Type} : List (DataW H) → Nat
  | [] => 0
  | d :: r => uptoBulk d + uptoBulkAll r
def uptoBulkEntries {H : Type} : List (Lit × DataW H) → Nat
  | [] => 0
  | x :: r => uptoBulkEntry x + uptoBulkEntries r
def uptoBulkEntry {H : Type} : Lit × DataW H → Nat
  | (.string bytes, d) => bytes.length + uptoBulk d + 1
  | (_, d) => uptoBulk d + 1
 end
def uptoSmall : (H : Type) → List (DataW H) → Bool := fun _ ds => decide (uptoBulkAll ds ≤ 1048576)
def OpenSpec.upto (s : _root_.Go.ChangeSpec) : _root_.Go.OpenSpec := { _root_.Go.OpenSpec.ofChange s with cond := some uptoSmall }

/-- 'cellplanelaw09.ReplicaVotes', WHERE WHAT IT READS IS OF BULK AT MOST 1048576: true; the input reads as it did. -/
def replicaVotesUptoRow : OpenClaim := { program := "ytjnfmfmglehmbaagreat", sum := "503b4da73bdf1f8d27283b56b05d36cf9933ffd2ddee445091738ac481081eff", func := "cellplane/cellplanelaw09.ReplicaVotes", spec := "replicaVotes", unfollowed := true, recurses := true, apart := false, narrowed := true }
def ReplicaVotesUptoSaid : Prop := replicaVotesUptoRow.holds Tryz.pinned (OpenSpec.upto replicaVotesSpec)

/-- 'cellplanelaw09.ReplicaCopies', WHERE WHAT IT READS IS OF BULK AT MOST 1048576: true; the input reads as it did. -/
def replicaCopiesUptoRow : OpenClaim := { program := "ytjnfmfmglehmbaagreat", sum := "503b4da73bdf1f8d27283b56b05d36cf9933ffd2ddee445091738ac481081eff", func := "cellplane/cellplanelaw09.ReplicaCopies", spec := "replicaCopies", unfollowed := true, recurses := true, apart := false, narrowed := true }
def ReplicaCopiesUptoSaid : Prop := replicaCopiesUptoRow.holds Tryz.pinned (OpenSpec.upto replicaCopiesSpec)

/-- 'cellplanelaw10.QuorumPlays', WHERE WHAT IT READS IS OF BULK AT MOST 1048576: true; the input reads as it did. -/
def quorumPlaysUptoRow : OpenClaim := { program := "ytjnfmfmglehmbaagreat", sum := "503b4da73bdf1f8d27283b56b05d36cf9933ffd2ddee445091738ac481081eff", func := "cellplane/cellplanelaw10.QuorumPlays", spec := "quorumPlays", unfollowed := true, recurses := true, apart := false, narrowed := true }
def QuorumPlaysUptoSaid : Prop := quorumPlaysUptoRow.holds Tryz.pinned (OpenSpec.upto quorumPlaysSpec)

/-- 'cellplanelaw10.QuorumCopies', WHERE WHAT IT READS IS OF BULK AT MOST 1048576: true; the input reads as it did. -/
def quorumCopiesUptoRow : OpenClaim := { program := "ytjnfmfmglehmbaagreat", sum := "503b4da73bdf1f8d27283b56b05d36cf9933ffd2ddee445091738ac481081eff", func := "cellplane/cellplanelaw10.QuorumCopies", spec := "quorumCopies", unfollowed := true, recurses := true, apart := false, narrowed := true }
def QuorumCopiesUptoSaid : Prop := quorumCopiesUptoRow.holds Tryz.pinned (OpenSpec.upto quorumCopiesSpec)

end Rows
end Go.Proofs.YtjnfmfmglehmbaaGreat
