/-
  No cell of these rows narrows 'for every input' (looked for: loops, veiled, ifaces, maps, wideKeys, modest, calm, conditions, laid).
  DERIVED. THE GIVEN ROWS OF THIS SEAT. 8 by the template 'for every input the law returns true; each argument reads behind the call as it read before'; 0 by the template 'total and deterministic' (their statements: YtchdgnahnbepoaaTotals.lean).
  GIVEN WITH THE SEED: the statements are not yours to turn. If you find one false, say at which input.
  Laid BY PROGRAM, IN A SANDBOX (cutbox-rows.mjs): the forced cells as the released guide's own fill.sh prints them over the translation 65ffd9315aec1fb2… (all of the seat's roots in one cut). By AI agents, Wed Nov 11 2026. No macro, syntax, notation, axiom, sorry.
-/
import Derived.Test.YtchdgnahnbepoaaChecked
import GoSem.Claim
import GoSem.ClaimJoined
import GoSem.ClaimMapViews
import Derived.JoinedTies
import Derived.KernelRfl
namespace Go.Proofs.Ytchdgnahnbepoaa
/- THE CELL 'sum', in the pinned program and in every row, IS THE sha256 OF THE DUMP (.gsa) THAT YtchdgnahnbepoaaProg.lean LOADS. Nothing in Lean hashes anything: it is a label: what it is worth is what the hold of that sum in a sandbox is worth. -/
noncomputable def Try.pinned : Pinned := { name := "ytchdgnahnbepoaa", sum := "65ffd9315aec1fb2f60fe1c0bb193a1cb030c09c5d46fad70ed3df891545bead", checked := Try.checked }
namespace Rows
def none {H : Type} : Left H := { results := [], args := [] }

/-- 'cellplanelaw03.FramePut': WHATEVER THE INPUT: true; the input reads as it did. -/
def framePutSpec : ChangeSpec := { name := "framePut", fn := fun _ => fun
  | [d1, d2, d3] => { results := [.lit (.bool true)], args := [d1, d2, d3] }
  | _ => none }
def framePutRow : OpenClaim := { program := "ytchdgnahnbepoaa", sum := "65ffd9315aec1fb2f60fe1c0bb193a1cb030c09c5d46fad70ed3df891545bead", func := "cellplane/cellplanelaw03.FramePut", spec := "framePut", apart := false }
def FramePutSaid : Prop := framePutRow.holds Try.pinned (OpenSpec.ofChange framePutSpec)

/-- ITS FALSE NEIGHBOUR: 'it returns false'. Refute it at one input. -/
def framePutWrong : ChangeSpec := { name := "framePut", fn := fun _ => fun
  | [d1, d2, d3] => { results := [.lit (.bool false)], args := [d1, d2, d3] }
  | _ => none }
def FramePutWrongFalsely : Prop := framePutRow.holds Try.pinned (OpenSpec.ofChange framePutWrong)

/-- 'cellplanelaw03.FrameTake': WHATEVER THE INPUT: true; the input reads as it did. -/
def frameTakeSpec : ChangeSpec := { name := "frameTake", fn := fun _ => fun
  | [d1, d2, d3, d4, d5] => { results := [.lit (.bool true)], args := [d1, d2, d3, d4, d5] }
  | _ => none }
def frameTakeRow : OpenClaim := { program := "ytchdgnahnbepoaa", sum := "65ffd9315aec1fb2f60fe1c0bb193a1cb030c09c5d46fad70ed3df891545bead", func := "cellplane/cellplanelaw03.FrameTake", spec := "frameTake", apart := false }
def FrameTakeSaid : Prop := frameTakeRow.holds Try.pinned (OpenSpec.ofChange frameTakeSpec)

/-- ITS FALSE NEIGHBOUR: 'it returns false'. Refute it at one input. -/
def frameTakeWrong : ChangeSpec := { name := "frameTake", fn := fun _ => fun
  | [d1, d2, d3, d4, d5] => { results := [.lit (.bool false)], args := [d1, d2, d3, d4, d5] }
  | _ => none }
def FrameTakeWrongFalsely : Prop := frameTakeRow.holds Try.pinned (OpenSpec.ofChange frameTakeWrong)

/-- 'cellplanelaw03.FrameBack': WHATEVER THE INPUT: true; the input reads as it did. -/
def frameBackSpec : ChangeSpec := { name := "frameBack", fn := fun _ => fun
  | [d1, d2, d3] => { results := [.lit (.bool true)], args := [d1, d2, d3] }
  | _ => none }
def frameBackRow : OpenClaim := { program := "ytchdgnahnbepoaa", sum := "65ffd9315aec1fb2f60fe1c0bb193a1cb030c09c5d46fad70ed3df891545bead", func := "cellplane/cellplanelaw03.FrameBack", spec := "frameBack", apart := false }
def FrameBackSaid : Prop := frameBackRow.holds Try.pinned (OpenSpec.ofChange frameBackSpec)

/-- ITS FALSE NEIGHBOUR: 'it returns false'. Refute it at one input. -/
def frameBackWrong : ChangeSpec := { name := "frameBack", fn := fun _ => fun
  | [d1, d2, d3] => { results := [.lit (.bool false)], args := [d1, d2, d3] }
  | _ => none }
def FrameBackWrongFalsely : Prop := frameBackRow.holds Try.pinned (OpenSpec.ofChange frameBackWrong)

/-- 'cellplanelaw03.FrameDamage': WHATEVER THE INPUT: true; the input reads as it did. -/
def frameDamageSpec : ChangeSpec := { name := "frameDamage", fn := fun _ => fun
  | [d1, d2, d3, d4] => { results := [.lit (.bool true)], args := [d1, d2, d3, d4] }
  | _ => none }
def frameDamageRow : OpenClaim := { program := "ytchdgnahnbepoaa", sum := "65ffd9315aec1fb2f60fe1c0bb193a1cb030c09c5d46fad70ed3df891545bead", func := "cellplane/cellplanelaw03.FrameDamage", spec := "frameDamage", apart := false }
def FrameDamageSaid : Prop := frameDamageRow.holds Try.pinned (OpenSpec.ofChange frameDamageSpec)

/-- ITS FALSE NEIGHBOUR: 'it returns false'. Refute it at one input. -/
def frameDamageWrong : ChangeSpec := { name := "frameDamage", fn := fun _ => fun
  | [d1, d2, d3, d4] => { results := [.lit (.bool false)], args := [d1, d2, d3, d4] }
  | _ => none }
def FrameDamageWrongFalsely : Prop := frameDamageRow.holds Try.pinned (OpenSpec.ofChange frameDamageWrong)

/-- 'cellplanelaw03.FrameCut': WHATEVER THE INPUT: true; the input reads as it did. -/
def frameCutSpec : ChangeSpec := { name := "frameCut", fn := fun _ => fun
  | [d1, d2, d3] => { results := [.lit (.bool true)], args := [d1, d2, d3] }
  | _ => none }
def frameCutRow : OpenClaim := { program := "ytchdgnahnbepoaa", sum := "65ffd9315aec1fb2f60fe1c0bb193a1cb030c09c5d46fad70ed3df891545bead", func := "cellplane/cellplanelaw03.FrameCut", spec := "frameCut", apart := false }
def FrameCutSaid : Prop := frameCutRow.holds Try.pinned (OpenSpec.ofChange frameCutSpec)

/-- ITS FALSE NEIGHBOUR: 'it returns false'. Refute it at one input. -/
def frameCutWrong : ChangeSpec := { name := "frameCut", fn := fun _ => fun
  | [d1, d2, d3] => { results := [.lit (.bool false)], args := [d1, d2, d3] }
  | _ => none }
def FrameCutWrongFalsely : Prop := frameCutRow.holds Try.pinned (OpenSpec.ofChange frameCutWrong)

/-- 'cellplanelaw03.FrameKeys': WHATEVER THE INPUT: true; the input reads as it did. -/
def frameKeysSpec : ChangeSpec := { name := "frameKeys", fn := fun _ => fun
  | [d1, d2, d3] => { results := [.lit (.bool true)], args := [d1, d2, d3] }
  | _ => none }
def frameKeysRow : OpenClaim := { program := "ytchdgnahnbepoaa", sum := "65ffd9315aec1fb2f60fe1c0bb193a1cb030c09c5d46fad70ed3df891545bead", func := "cellplane/cellplanelaw03.FrameKeys", spec := "frameKeys", apart := false }
def FrameKeysSaid : Prop := frameKeysRow.holds Try.pinned (OpenSpec.ofChange frameKeysSpec)

/-- ITS FALSE NEIGHBOUR: 'it returns false'. Refute it at one input. -/
def frameKeysWrong : ChangeSpec := { name := "frameKeys", fn := fun _ => fun
  | [d1, d2, d3] => { results := [.lit (.bool false)], args := [d1, d2, d3] }
  | _ => none }
def FrameKeysWrongFalsely : Prop := frameKeysRow.holds Try.pinned (OpenSpec.ofChange frameKeysWrong)

/-- 'cellplanelaw03.FrameAll': WHATEVER THE INPUT: true; the input reads as it did. -/
def frameAllSpec : ChangeSpec := { name := "frameAll", fn := fun _ => fun
  | [d1, d2, d3, d4] => { results := [.lit (.bool true)], args := [d1, d2, d3, d4] }
  | _ => none }
def frameAllRow : OpenClaim := { program := "ytchdgnahnbepoaa", sum := "65ffd9315aec1fb2f60fe1c0bb193a1cb030c09c5d46fad70ed3df891545bead", func := "cellplane/cellplanelaw03.FrameAll", spec := "frameAll", apart := false }
def FrameAllSaid : Prop := frameAllRow.holds Try.pinned (OpenSpec.ofChange frameAllSpec)

/-- ITS FALSE NEIGHBOUR: 'it returns false'. Refute it at one input. -/
def frameAllWrong : ChangeSpec := { name := "frameAll", fn := fun _ => fun
  | [d1, d2, d3, d4] => { results := [.lit (.bool false)], args := [d1, d2, d3, d4] }
  | _ => none }
def FrameAllWrongFalsely : Prop := frameAllRow.holds Try.pinned (OpenSpec.ofChange frameAllWrong)

/-- 'cellplanelaw03.FrameRecords': WHATEVER THE INPUT: true; the input reads as it did. -/
def frameRecordsSpec : ChangeSpec := { name := "frameRecords", fn := fun _ => fun
  | [d1, d2, d3, d4] => { results := [.lit (.bool true)], args := [d1, d2, d3, d4] }
  | _ => none }
def frameRecordsRow : OpenClaim := { program := "ytchdgnahnbepoaa", sum := "65ffd9315aec1fb2f60fe1c0bb193a1cb030c09c5d46fad70ed3df891545bead", func := "cellplane/cellplanelaw03.FrameRecords", spec := "frameRecords", apart := false }
def FrameRecordsSaid : Prop := frameRecordsRow.holds Try.pinned (OpenSpec.ofChange frameRecordsSpec)

/-- ITS FALSE NEIGHBOUR: 'it returns false'. Refute it at one input. -/
def frameRecordsWrong : ChangeSpec := { name := "frameRecords", fn := fun _ => fun
  | [d1, d2, d3, d4] => { results := [.lit (.bool false)], args := [d1, d2, d3, d4] }
  | _ => none }
def FrameRecordsWrongFalsely : Prop := frameRecordsRow.holds Try.pinned (OpenSpec.ofChange frameRecordsWrong)

/- THE SECOND FORM. 'bulk': how many values and letters a reading holds, each counted each time it is reached (what is shared counts as often as it is met; a slice's spare places count too). A statement '..UptoSaid' is the law's where the arguments, and the package variables that the reading takes, are together of bulk at most 1048576: NARROWER than '..Said'. Prove '..Said' where nothing that the law and all that it calls make is longer than what came in: it says more and counts as full. Else prove '..UptoSaid'. A law counts once. -/
mutual
def uptoBulk {H : Type} : DataW H → Nat
  | .lit (.string bytes) => bytes.length + 1
  | .lit _ => 1
  | .nil => 1
  | .ptr d => uptoBulk d + 1
  | .slice elems spare => uptoBulkAll elems + uptoBulkAll spare + 1
  | .agg parts => uptoBulkAll parts + 1
  | .iface _ d => uptoBulk d + 1
  | .map entries => uptoBulkEntries entries + 1
  | .held _ => 1
def uptoBulkAll {H : Type} : List (DataW H) → Nat
  | [] => 0
  | d :: r => uptoBulk d + uptoBulkAll r
def uptoBulkEntries {H : Type} : List (Lit × DataW H) → Nat
  | [] => 0
  | x :: r => uptoBulkEntry x + uptoBulkEntries r
def uptoBulkEntry {H : Type} : Lit × DataW H → Nat
  | (.string bytes, d) => bytes.length + uptoBulk d + 1
  | (_, d) => uptoBulk d + 1
 end
def uptoSmall : (H : Type) → List (DataW H) → Bool := fun _ ds => decide (uptoBulkAll ds ≤ 1048576)
def OpenSpec.upto (s : _root_.Go.ChangeSpec) : _root_.Go.OpenSpec := { _root_.Go.OpenSpec.ofChange s with cond := some uptoSmall }

/-- 'cellplanelaw03.FramePut', WHERE WHAT IT READS IS OF BULK AT MOST 1048576: true; the input reads as it did. -/
def framePutUptoRow : OpenClaim := { program := "ytchdgnahnbepoaa", sum := "65ffd9315aec1fb2f60fe1c0bb193a1cb030c09c5d46fad70ed3df891545bead", func := "cellplane/cellplanelaw03.FramePut", spec := "framePut", apart := false, narrowed := true }
def FramePutUptoSaid : Prop := framePutUptoRow.holds Try.pinned (OpenSpec.upto framePutSpec)

/-- 'cellplanelaw03.FrameTake', WHERE WHAT IT READS IS OF BULK AT MOST 1048576: true; the input reads as it did. -/
def frameTakeUptoRow : OpenClaim := { program := "ytchdgnahnbepoaa", sum := "65ffd9315aec1fb2f60fe1c0bb193a1cb030c09c5d46fad70ed3df891545bead", func := "cellplane/cellplanelaw03.FrameTake", spec := "frameTake", apart := false, narrowed := true }
def FrameTakeUptoSaid : Prop := frameTakeUptoRow.holds Try.pinned (OpenSpec.upto frameTakeSpec)

/-- 'cellplanelaw03.FrameBack', WHERE WHAT IT READS IS OF BULK AT MOST 1048576: true; the input reads as it did. -/
def frameBackUptoRow : OpenClaim := { program := "ytchdgnahnbepoaa", sum := "65ffd9315aec1fb2f60fe1c0bb193a1cb030c09c5d46fad70ed3df891545bead", func := "cellplane/cellplanelaw03.FrameBack", spec := "frameBack", apart := false, narrowed := true }
def FrameBackUptoSaid : Prop := frameBackUptoRow.holds Try.pinned (OpenSpec.upto frameBackSpec)

/-- 'cellplanelaw03.FrameDamage', WHERE WHAT IT READS IS OF BULK AT MOST 1048576: true; the input reads as it did. -/
def frameDamageUptoRow : OpenClaim := { program := "ytchdgnahnbepoaa", sum := "65ffd9315aec1fb2f60fe1c0bb193a1cb030c09c5d46fad70ed3df891545bead", func := "cellplane/cellplanelaw03.FrameDamage", spec := "frameDamage", apart := false, narrowed := true }
def FrameDamageUptoSaid : Prop := frameDamageUptoRow.holds Try.pinned (OpenSpec.upto frameDamageSpec)

/-- 'cellplanelaw03.FrameCut', WHERE WHAT IT READS IS OF BULK AT MOST 1048576: true; the input reads as it did. -/
def frameCutUptoRow : OpenClaim := { program := "ytchdgnahnbepoaa", sum := "65ffd9315aec1fb2f60fe1c0bb193a1cb030c09c5d46fad70ed3df891545bead", func := "cellplane/cellplanelaw03.FrameCut", spec := "frameCut", apart := false, narrowed := true }
def FrameCutUptoSaid : Prop := frameCutUptoRow.holds Try.pinned (OpenSpec.upto frameCutSpec)

/-- 'cellplanelaw03.FrameKeys', WHERE WHAT IT READS IS OF BULK AT MOST 1048576: true; the input reads as it did. -/
def frameKeysUptoRow : OpenClaim := { program := "ytchdgnahnbepoaa", sum := "65ffd9315aec1fb2f60fe1c0bb193a1cb030c09c5d46fad70ed3df891545bead", func := "cellplane/cellplanelaw03.FrameKeys", spec := "frameKeys", apart := false, narrowed := true }
def FrameKeysUptoSaid : Prop := frameKeysUptoRow.holds Try.pinned (OpenSpec.upto frameKeysSpec)

/-- 'cellplanelaw03.FrameAll', WHERE WHAT IT READS IS OF BULK AT MOST 1048576: true; the input reads as it did. -/
def frameAllUptoRow : OpenClaim := { program := "ytchdgnahnbepoaa", sum := "65ffd9315aec1fb2f60fe1c0bb193a1cb030c09c5d46fad70ed3df891545bead", func := "cellplane/cellplanelaw03.FrameAll", spec := "frameAll", apart := false, narrowed := true }
def FrameAllUptoSaid : Prop := frameAllUptoRow.holds Try.pinned (OpenSpec.upto frameAllSpec)

/-- 'cellplanelaw03.FrameRecords', WHERE WHAT IT READS IS OF BULK AT MOST 1048576: true; the input reads as it did. -/
def frameRecordsUptoRow : OpenClaim := { program := "ytchdgnahnbepoaa", sum := "65ffd9315aec1fb2f60fe1c0bb193a1cb030c09c5d46fad70ed3df891545bead", func := "cellplane/cellplanelaw03.FrameRecords", spec := "frameRecords", apart := false, narrowed := true }
def FrameRecordsUptoSaid : Prop := frameRecordsUptoRow.holds Try.pinned (OpenSpec.upto frameRecordsSpec)

end Rows
end Go.Proofs.Ytchdgnahnbepoaa
