/-
  No cell of these rows narrows 'for every input' (looked for: loops, veiled, ifaces, maps, wideKeys, modest, calm, conditions, laid).
  DERIVED. THE GIVEN ROWS OF THIS SEAT. 10 by the template 'for every input the law returns true; each argument reads behind the call as it read before'; 0 by the template 'total and deterministic' (their statements: YtjplcnjegajhpaaTotals.lean).
  GIVEN WITH THE SEED: the statements are not yours to turn. If you find one false, say at which input.
  Laid BY PROGRAM, IN A SANDBOX (cutbox-rows.mjs): the forced cells as the released guide's own fill.sh prints them over the translation 07d6564f3400fa1b… (all of the seat's roots in one cut). By AI agents, Wed Nov 11 2026. No macro, syntax, notation, axiom, sorry.
-/
import Derived.Test.YtjplcnjegajhpaaChecked
import GoSem.Claim
import GoSem.ClaimJoined
import GoSem.ClaimMapViews
import Derived.JoinedTies
import Derived.KernelRfl
namespace Go.Proofs.Ytjplcnjegajhpaa
/- THE CELL 'sum', in the pinned program and in every row, IS THE sha256 OF THE DUMP (.gsa) THAT YtjplcnjegajhpaaProg.lean LOADS. Nothing in Lean hashes anything: it is a label: what it is worth is what the hold of that sum in a sandbox is worth. -/
noncomputable def Try.pinned : Pinned := { name := "ytjplcnjegajhpaa", sum := "07d6564f3400fa1b73a6192783b4e148eb92b032a794d22627e1f069bf56afc6", checked := Try.checked }
namespace Rows
def none {H : Type} : Left H := { results := [], args := [] }

/-- 'cellplanelaw01.WireInt': WHATEVER THE INPUT: true; the input reads as it did. -/
def wireIntSpec : ChangeSpec := { name := "wireInt", fn := fun _ => fun
  | [d1, d2] => { results := [.lit (.bool true)], args := [d1, d2] }
  | _ => none }
def wireIntRow : OpenClaim := { program := "ytjplcnjegajhpaa", sum := "07d6564f3400fa1b73a6192783b4e148eb92b032a794d22627e1f069bf56afc6", func := "cellplane/cellplanelaw01.WireInt", spec := "wireInt", apart := false }
def WireIntSaid : Prop := wireIntRow.holds Try.pinned (OpenSpec.ofChange wireIntSpec)

/-- ITS FALSE NEIGHBOUR: 'it returns false'. Refute it at one input. -/
def wireIntWrong : ChangeSpec := { name := "wireInt", fn := fun _ => fun
  | [d1, d2] => { results := [.lit (.bool false)], args := [d1, d2] }
  | _ => none }
def WireIntWrongFalsely : Prop := wireIntRow.holds Try.pinned (OpenSpec.ofChange wireIntWrong)

/-- 'cellplanelaw01.WireTake': WHATEVER THE INPUT: true; the input reads as it did. -/
def wireTakeSpec : ChangeSpec := { name := "wireTake", fn := fun _ => fun
  | [d1, d2] => { results := [.lit (.bool true)], args := [d1, d2] }
  | _ => none }
def wireTakeRow : OpenClaim := { program := "ytjplcnjegajhpaa", sum := "07d6564f3400fa1b73a6192783b4e148eb92b032a794d22627e1f069bf56afc6", func := "cellplane/cellplanelaw01.WireTake", spec := "wireTake", apart := false }
def WireTakeSaid : Prop := wireTakeRow.holds Try.pinned (OpenSpec.ofChange wireTakeSpec)

/-- ITS FALSE NEIGHBOUR: 'it returns false'. Refute it at one input. -/
def wireTakeWrong : ChangeSpec := { name := "wireTake", fn := fun _ => fun
  | [d1, d2] => { results := [.lit (.bool false)], args := [d1, d2] }
  | _ => none }
def WireTakeWrongFalsely : Prop := wireTakeRow.holds Try.pinned (OpenSpec.ofChange wireTakeWrong)

/-- 'cellplanelaw01.WireBack': WHATEVER THE INPUT: true; the input reads as it did. -/
def wireBackSpec : ChangeSpec := { name := "wireBack", fn := fun _ => fun
  | [d1, d2] => { results := [.lit (.bool true)], args := [d1, d2] }
  | _ => none }
def wireBackRow : OpenClaim := { program := "ytjplcnjegajhpaa", sum := "07d6564f3400fa1b73a6192783b4e148eb92b032a794d22627e1f069bf56afc6", func := "cellplane/cellplanelaw01.WireBack", spec := "wireBack", apart := false }
def WireBackSaid : Prop := wireBackRow.holds Try.pinned (OpenSpec.ofChange wireBackSpec)

/-- ITS FALSE NEIGHBOUR: 'it returns false'. Refute it at one input. -/
def wireBackWrong : ChangeSpec := { name := "wireBack", fn := fun _ => fun
  | [d1, d2] => { results := [.lit (.bool false)], args := [d1, d2] }
  | _ => none }
def WireBackWrongFalsely : Prop := wireBackRow.holds Try.pinned (OpenSpec.ofChange wireBackWrong)

/-- 'cellplanelaw01.WireShort': WHATEVER THE INPUT: true; the input reads as it did. -/
def wireShortSpec : ChangeSpec := { name := "wireShort", fn := fun _ => fun
  | [d] => { results := [.lit (.bool true)], args := [d] }
  | _ => none }
def wireShortRow : OpenClaim := { program := "ytjplcnjegajhpaa", sum := "07d6564f3400fa1b73a6192783b4e148eb92b032a794d22627e1f069bf56afc6", func := "cellplane/cellplanelaw01.WireShort", spec := "wireShort", apart := false }
def WireShortSaid : Prop := wireShortRow.holds Try.pinned (OpenSpec.ofChange wireShortSpec)

/-- ITS FALSE NEIGHBOUR: 'it returns false'. Refute it at one input. -/
def wireShortWrong : ChangeSpec := { name := "wireShort", fn := fun _ => fun
  | [d] => { results := [.lit (.bool false)], args := [d] }
  | _ => none }
def WireShortWrongFalsely : Prop := wireShortRow.holds Try.pinned (OpenSpec.ofChange wireShortWrong)

/-- 'cellplanelaw01.WireCanonical': WHATEVER THE INPUT: true; the input reads as it did. -/
def wireCanonicalSpec : ChangeSpec := { name := "wireCanonical", fn := fun _ => fun
  | [d] => { results := [.lit (.bool true)], args := [d] }
  | _ => none }
def wireCanonicalRow : OpenClaim := { program := "ytjplcnjegajhpaa", sum := "07d6564f3400fa1b73a6192783b4e148eb92b032a794d22627e1f069bf56afc6", func := "cellplane/cellplanelaw01.WireCanonical", spec := "wireCanonical", apart := false }
def WireCanonicalSaid : Prop := wireCanonicalRow.holds Try.pinned (OpenSpec.ofChange wireCanonicalSpec)

/-- ITS FALSE NEIGHBOUR: 'it returns false'. Refute it at one input. -/
def wireCanonicalWrong : ChangeSpec := { name := "wireCanonical", fn := fun _ => fun
  | [d] => { results := [.lit (.bool false)], args := [d] }
  | _ => none }
def WireCanonicalWrongFalsely : Prop := wireCanonicalRow.holds Try.pinned (OpenSpec.ofChange wireCanonicalWrong)

/-- 'cellplanelaw01.WireUnlike': WHATEVER THE INPUT: true; the input reads as it did. -/
def wireUnlikeSpec : ChangeSpec := { name := "wireUnlike", fn := fun _ => fun
  | [d1, d2, d3, d4] => { results := [.lit (.bool true)], args := [d1, d2, d3, d4] }
  | _ => none }
def wireUnlikeRow : OpenClaim := { program := "ytjplcnjegajhpaa", sum := "07d6564f3400fa1b73a6192783b4e148eb92b032a794d22627e1f069bf56afc6", func := "cellplane/cellplanelaw01.WireUnlike", spec := "wireUnlike", apart := false }
def WireUnlikeSaid : Prop := wireUnlikeRow.holds Try.pinned (OpenSpec.ofChange wireUnlikeSpec)

/-- ITS FALSE NEIGHBOUR: 'it returns false'. Refute it at one input. -/
def wireUnlikeWrong : ChangeSpec := { name := "wireUnlike", fn := fun _ => fun
  | [d1, d2, d3, d4] => { results := [.lit (.bool false)], args := [d1, d2, d3, d4] }
  | _ => none }
def WireUnlikeWrongFalsely : Prop := wireUnlikeRow.holds Try.pinned (OpenSpec.ofChange wireUnlikeWrong)

/-- 'cellplanelaw01.WireLists': WHATEVER THE INPUT: true; the input reads as it did. -/
def wireListsSpec : ChangeSpec := { name := "wireLists", fn := fun _ => fun
  | [d1, d2, d3] => { results := [.lit (.bool true)], args := [d1, d2, d3] }
  | _ => none }
def wireListsRow : OpenClaim := { program := "ytjplcnjegajhpaa", sum := "07d6564f3400fa1b73a6192783b4e148eb92b032a794d22627e1f069bf56afc6", func := "cellplane/cellplanelaw01.WireLists", spec := "wireLists", apart := false }
def WireListsSaid : Prop := wireListsRow.holds Try.pinned (OpenSpec.ofChange wireListsSpec)

/-- ITS FALSE NEIGHBOUR: 'it returns false'. Refute it at one input. -/
def wireListsWrong : ChangeSpec := { name := "wireLists", fn := fun _ => fun
  | [d1, d2, d3] => { results := [.lit (.bool false)], args := [d1, d2, d3] }
  | _ => none }
def WireListsWrongFalsely : Prop := wireListsRow.holds Try.pinned (OpenSpec.ofChange wireListsWrong)

/-- 'cellplanelaw01.WireAppends': WHATEVER THE INPUT: true; the input reads as it did. -/
def wireAppendsSpec : ChangeSpec := { name := "wireAppends", fn := fun _ => fun
  | [d1, d2, d3, d4] => { results := [.lit (.bool true)], args := [d1, d2, d3, d4] }
  | _ => none }
def wireAppendsRow : OpenClaim := { program := "ytjplcnjegajhpaa", sum := "07d6564f3400fa1b73a6192783b4e148eb92b032a794d22627e1f069bf56afc6", func := "cellplane/cellplanelaw01.WireAppends", spec := "wireAppends", apart := false }
def WireAppendsSaid : Prop := wireAppendsRow.holds Try.pinned (OpenSpec.ofChange wireAppendsSpec)

/-- ITS FALSE NEIGHBOUR: 'it returns false'. Refute it at one input. -/
def wireAppendsWrong : ChangeSpec := { name := "wireAppends", fn := fun _ => fun
  | [d1, d2, d3, d4] => { results := [.lit (.bool false)], args := [d1, d2, d3, d4] }
  | _ => none }
def WireAppendsWrongFalsely : Prop := wireAppendsRow.holds Try.pinned (OpenSpec.ofChange wireAppendsWrong)

/-- 'cellplanelaw01.WireTakeLists': WHATEVER THE INPUT: true; the input reads as it did. -/
def wireTakeListsSpec : ChangeSpec := { name := "wireTakeLists", fn := fun _ => fun
  | [d1, d2] => { results := [.lit (.bool true)], args := [d1, d2] }
  | _ => none }
def wireTakeListsRow : OpenClaim := { program := "ytjplcnjegajhpaa", sum := "07d6564f3400fa1b73a6192783b4e148eb92b032a794d22627e1f069bf56afc6", func := "cellplane/cellplanelaw01.WireTakeLists", spec := "wireTakeLists", apart := false }
def WireTakeListsSaid : Prop := wireTakeListsRow.holds Try.pinned (OpenSpec.ofChange wireTakeListsSpec)

/-- ITS FALSE NEIGHBOUR: 'it returns false'. Refute it at one input. -/
def wireTakeListsWrong : ChangeSpec := { name := "wireTakeLists", fn := fun _ => fun
  | [d1, d2] => { results := [.lit (.bool false)], args := [d1, d2] }
  | _ => none }
def WireTakeListsWrongFalsely : Prop := wireTakeListsRow.holds Try.pinned (OpenSpec.ofChange wireTakeListsWrong)

/-- 'cellplanelaw01.WireTextBack': WHATEVER THE INPUT: true; the input reads as it did. -/
def wireTextBackSpec : ChangeSpec := { name := "wireTextBack", fn := fun _ => fun
  | [d1, d2, d3] => { results := [.lit (.bool true)], args := [d1, d2, d3] }
  | _ => none }
def wireTextBackRow : OpenClaim := { program := "ytjplcnjegajhpaa", sum := "07d6564f3400fa1b73a6192783b4e148eb92b032a794d22627e1f069bf56afc6", func := "cellplane/cellplanelaw01.WireTextBack", spec := "wireTextBack", apart := false }
def WireTextBackSaid : Prop := wireTextBackRow.holds Try.pinned (OpenSpec.ofChange wireTextBackSpec)

/-- ITS FALSE NEIGHBOUR: 'it returns false'. Refute it at one input. -/
def wireTextBackWrong : ChangeSpec := { name := "wireTextBack", fn := fun _ => fun
  | [d1, d2, d3] => { results := [.lit (.bool false)], args := [d1, d2, d3] }
  | _ => none }
def WireTextBackWrongFalsely : Prop := wireTextBackRow.holds Try.pinned (OpenSpec.ofChange wireTextBackWrong)

/- THE SECOND FORM. 'bulk': how many values and letters a reading holds, each counted each time it is reached (what is shared counts as often as it is met; a slice's spare places count too). A statement '..UptoSaid' is the law's where the arguments, and the package variables that the reading takes, are together of bulk at most 1048576: NARROWER than '..Said'. Prove '..Said' where nothing that the law and all that it calls make is longer than what came in: it says more and counts as full. Else prove '..UptoSaid'. A law counts once. -/
mutual
def uptoBulk {H : Type} : DataW H → Nat
  | .lit (.string bytes) => bytes.length + 1
  | .lit _ => 1
  | .nil => 1
  | .ptr d => uptoBulk d + 1
  | .slice elems spare => uptoBulkAll elems + uptoBulkAll spare + 1
  | .agg parts => uptoBulkAll parts + 1
  | .iface _ d => uptoBulk d + 1
  | .map entries => uptoBulkEntries entries + 1
  | .held _ => 1
def uptoBulkAll {H : Type} : List (DataW H) → Nat
  | [] => 0
  | d :: r => uptoBulk d + uptoBulkAll r
def uptoBulkEntries {H : Type} : List (Lit × DataW H) → Nat
  | [] => 0
  | x :: r => uptoBulkEntry x + uptoBulkEntries r
def uptoBulkEntry {H : Type} : Lit × DataW H → Nat
  | (.string bytes, d) => bytes.length + uptoBulk d + 1
  | (_, d) => uptoBulk d + 1
 end
def uptoSmall : (H : Type) → List (DataW H) → Bool := fun _ ds => decide (uptoBulkAll ds ≤ 1048576)
def OpenSpec.upto (s : _root_.Go.ChangeSpec) : _root_.Go.OpenSpec := { _root_.Go.OpenSpec.ofChange s with cond := some uptoSmall }

/-- 'cellplanelaw01.WireInt', WHERE WHAT IT READS IS OF BULK AT MOST 1048576: true; the input reads as it did. -/
def wireIntUptoRow : OpenClaim := { program := "ytjplcnjegajhpaa", sum := "07d6564f3400fa1b73a6192783b4e148eb92b032a794d22627e1f069bf56afc6", func := "cellplane/cellplanelaw01.WireInt", spec := "wireInt", apart := false, narrowed := true }
def WireIntUptoSaid : Prop := wireIntUptoRow.holds Try.pinned (OpenSpec.upto wireIntSpec)

/-- 'cellplanelaw01.WireTake', WHERE WHAT IT READS IS OF BULK AT MOST 1048576: true; the input reads as it did. -/
def wireTakeUptoRow : OpenClaim := { program := "ytjplcnjegajhpaa", sum := "07d6564f3400fa1b73a6192783b4e148eb92b032a794d22627e1f069bf56afc6", func := "cellplane/cellplanelaw01.WireTake", spec := "wireTake", apart := false, narrowed := true }
def WireTakeUptoSaid : Prop := wireTakeUptoRow.holds Try.pinned (OpenSpec.upto wireTakeSpec)

/-- 'cellplanelaw01.WireBack', WHERE WHAT IT READS IS OF BULK AT MOST 1048576: true; the input reads as it did. -/
def wireBackUptoRow : OpenClaim := { program := "ytjplcnjegajhpaa", sum := "07d6564f3400fa1b73a6192783b4e148eb92b032a794d22627e1f069bf56afc6", func := "cellplane/cellplanelaw01.WireBack", spec := "wireBack", apart := false, narrowed := true }
def WireBackUptoSaid : Prop := wireBackUptoRow.holds Try.pinned (OpenSpec.upto wireBackSpec)

/-- 'cellplanelaw01.WireShort', WHERE WHAT IT READS IS OF BULK AT MOST 1048576: true; the input reads as it did. -/
def wireShortUptoRow : OpenClaim := { program := "ytjplcnjegajhpaa", sum := "07d6564f3400fa1b73a6192783b4e148eb92b032a794d22627e1f069bf56afc6", func := "cellplane/cellplanelaw01.WireShort", spec := "wireShort", apart := false, narrowed := true }
def WireShortUptoSaid : Prop := wireShortUptoRow.holds Try.pinned (OpenSpec.upto wireShortSpec)

/-- 'cellplanelaw01.WireCanonical', WHERE WHAT IT READS IS OF BULK AT MOST 1048576: true; the input reads as it did. -/
def wireCanonicalUptoRow : OpenClaim := { program := "ytjplcnjegajhpaa", sum := "07d6564f3400fa1b73a6192783b4e148eb92b032a794d22627e1f069bf56afc6", func := "cellplane/cellplanelaw01.WireCanonical", spec := "wireCanonical", apart := false, narrowed := true }
def WireCanonicalUptoSaid : Prop := wireCanonicalUptoRow.holds Try.pinned (OpenSpec.upto wireCanonicalSpec)

/-- 'cellplanelaw01.WireUnlike', WHERE WHAT IT READS IS OF BULK AT MOST 1048576: true; the input reads as it did. -/
def wireUnlikeUptoRow : OpenClaim := { program := "ytjplcnjegajhpaa", sum := "07d6564f3400fa1b73a6192783b4e148eb92b032a794d22627e1f069bf56afc6", func := "cellplane/cellplanelaw01.WireUnlike", spec := "wireUnlike", apart := false, narrowed := true }
def WireUnlikeUptoSaid : Prop := wireUnlikeUptoRow.holds Try.pinned (OpenSpec.upto wireUnlikeSpec)

/-- 'cellplanelaw01.WireLists', WHERE WHAT IT READS IS OF BULK AT MOST 1048576: true; the input reads as it did. -/
def wireListsUptoRow : OpenClaim := { program := "ytjplcnjegajhpaa", sum := "07d6564f3400fa1b73a6192783b4e148eb92b032a794d22627e1f069bf56afc6", func := "cellplane/cellplanelaw01.WireLists", spec := "wireLists", apart := false, narrowed := true }
def WireListsUptoSaid : Prop := wireListsUptoRow.holds Try.pinned (OpenSpec.upto wireListsSpec)

/-- 'cellplanelaw01.WireAppends', WHERE WHAT IT READS IS OF BULK AT MOST 1048576: true; the input reads as it did. -/
def wireAppendsUptoRow : OpenClaim := { program := "ytjplcnjegajhpaa", sum := "07d6564f3400fa1b73a6192783b4e148eb92b032a794d22627e1f069bf56afc6", func := "cellplane/cellplanelaw01.WireAppends", spec := "wireAppends", apart := false, narrowed := true }
def WireAppendsUptoSaid : Prop := wireAppendsUptoRow.holds Try.pinned (OpenSpec.upto wireAppendsSpec)

/-- 'cellplanelaw01.WireTakeLists', WHERE WHAT IT READS IS OF BULK AT MOST 1048576: true; the input reads as it did. -/
def wireTakeListsUptoRow : OpenClaim := { program := "ytjplcnjegajhpaa", sum := "07d6564f3400fa1b73a6192783b4e148eb92b032a794d22627e1f069bf56afc6", func := "cellplane/cellplanelaw01.WireTakeLists", spec := "wireTakeLists", apart := false, narrowed := true }
def WireTakeListsUptoSaid : Prop := wireTakeListsUptoRow.holds Try.pinned (OpenSpec.upto wireTakeListsSpec)

/-- 'cellplanelaw01.WireTextBack', WHERE WHAT IT READS IS OF BULK AT MOST 1048576: true; the input reads as it did. -/
def wireTextBackUptoRow : OpenClaim := { program := "ytjplcnjegajhpaa", sum := "07d6564f3400fa1b73a6192783b4e148eb92b032a794d22627e1f069bf56afc6", func := "cellplane/cellplanelaw01.WireTextBack", spec := "wireTextBack", apart := false, narrowed := true }
def WireTextBackUptoSaid : Prop := wireTextBackUptoRow.holds Try.pinned (OpenSpec.upto wireTextBackSpec)

end Rows
end Go.Proofs.Ytjplcnjegajhpaa
