/-
  DERIVED. GIVEN WITH THE SEED: THE CARDS: each row of YtanhbebikcoliaaDoorRows.lean that lists a variable, with what it lists TIED to the program's text (the seventh form; the later family's looks); each row that meets fmt, with fmt's text TOLD by the authors' own Lean function (tested against real Go, not proved from fmt's source: count such statements apart). THE CARD IS WHAT COUNTS. Prove the row's statement (the work); the ties are given (YtanhbebikcoliaaDoorTie.lean); close each card by the builder's one call (the guide's Derived/Test/ToyasCard.lean, 'card_holds'). Laid BY PROGRAM, IN A SANDBOX (cutbox-door.mjs). By AI agents, Wed Nov 11 2026. No macro, syntax, notation, axiom, sorry.
-/
import Derived.Test.YtanhbebikcoliaaDoorRows
import GoSem.ClaimSeven
namespace Go.Proofs.YtanhbebikcoliaaDoor
namespace Rows

/-- THE TIED CARD OF 'cellplanelaw06.EntryShape'. -/
def entryShapeCard : Claim7 := { stood := { row := entryShapeRow, standIns := [], harness := (true, "08ff8027f381de1310b0f709e75640a336bb2e3e3894e98c76a9a714ae3efafb"), looks := false }, kinds := [], alts := [], laidByText := true, laidKinds := [.data], laidTests := true, laidLooks := .later }
def EntryShapeCardSaid : Prop := Claim7.holds Tryd.pinned (.plain (OpenSpec.ofChange entryShapeSpec)) entryShapeCard

/-- THE TIED CARD OF 'cellplanelaw06.EntryValid'. -/
def entryValidCard : Claim7 := { stood := { row := entryValidRow, standIns := [], harness := (true, "08ff8027f381de1310b0f709e75640a336bb2e3e3894e98c76a9a714ae3efafb"), looks := false }, kinds := [], alts := [], laidByText := true, laidKinds := [.data], laidTests := true, laidLooks := .later }
def EntryValidCardSaid : Prop := Claim7.holds Tryd.pinned (.plain (OpenSpec.ofChange entryValidSpec)) entryValidCard

/-- THE TIED CARD OF 'cellplanelaw06.EntryValidShape'. -/
def entryValidShapeCard : Claim7 := { stood := { row := entryValidShapeRow, standIns := [], harness := (true, "08ff8027f381de1310b0f709e75640a336bb2e3e3894e98c76a9a714ae3efafb"), looks := false }, kinds := [], alts := [], laidByText := true, laidKinds := [.data], laidTests := true, laidLooks := .later }
def EntryValidShapeCardSaid : Prop := Claim7.holds Tryd.pinned (.plain (OpenSpec.ofChange entryValidShapeSpec)) entryValidShapeCard

/-- THE TIED CARD OF 'cellplanelaw06.EntryBytes'. -/
def entryBytesCard : Claim7 := { stood := { row := entryBytesRow, standIns := [], harness := (true, "08ff8027f381de1310b0f709e75640a336bb2e3e3894e98c76a9a714ae3efafb"), looks := false }, kinds := [], alts := [], laidByText := true, laidKinds := [.data], laidTests := true, laidLooks := .later }
def EntryBytesCardSaid : Prop := Claim7.holds Tryd.pinned (.plain (OpenSpec.ofChange entryBytesSpec)) entryBytesCard

/-- THE TIED CARD OF 'cellplanelaw06.EntryBack'. -/
def entryBackCard : Claim7 := { stood := { row := entryBackRow, standIns := [], harness := (true, "08ff8027f381de1310b0f709e75640a336bb2e3e3894e98c76a9a714ae3efafb"), looks := false }, kinds := [], alts := [], laidByText := true, laidKinds := [.data], laidTests := true, laidLooks := .later }
def EntryBackCardSaid : Prop := Claim7.holds Tryd.pinned (.plain (OpenSpec.ofChange entryBackSpec)) entryBackCard

/-- THE SECOND FORM's CARD OF 'cellplanelaw06.EntryShape'. -/
def entryShapeUptoCard : Claim7 := { stood := { row := entryShapeUptoRow, standIns := [], harness := (true, "08ff8027f381de1310b0f709e75640a336bb2e3e3894e98c76a9a714ae3efafb"), looks := false }, kinds := [], alts := [], laidByText := true, laidKinds := [.data], laidTests := true, laidLooks := .later }
def EntryShapeUptoCardSaid : Prop := Claim7.holds Tryd.pinned (.plain (OpenSpec.upto entryShapeSpec)) entryShapeUptoCard

/-- THE SECOND FORM's CARD OF 'cellplanelaw06.EntryValid'. -/
def entryValidUptoCard : Claim7 := { stood := { row := entryValidUptoRow, standIns := [], harness := (true, "08ff8027f381de1310b0f709e75640a336bb2e3e3894e98c76a9a714ae3efafb"), looks := false }, kinds := [], alts := [], laidByText := true, laidKinds := [.data], laidTests := true, laidLooks := .later }
def EntryValidUptoCardSaid : Prop := Claim7.holds Tryd.pinned (.plain (OpenSpec.upto entryValidSpec)) entryValidUptoCard

/-- THE SECOND FORM's CARD OF 'cellplanelaw06.EntryValidShape'. -/
def entryValidShapeUptoCard : Claim7 := { stood := { row := entryValidShapeUptoRow, standIns := [], harness := (true, "08ff8027f381de1310b0f709e75640a336bb2e3e3894e98c76a9a714ae3efafb"), looks := false }, kinds := [], alts := [], laidByText := true, laidKinds := [.data], laidTests := true, laidLooks := .later }
def EntryValidShapeUptoCardSaid : Prop := Claim7.holds Tryd.pinned (.plain (OpenSpec.upto entryValidShapeSpec)) entryValidShapeUptoCard

/-- THE SECOND FORM's CARD OF 'cellplanelaw06.EntryBytes'. -/
def entryBytesUptoCard : Claim7 := { stood := { row := entryBytesUptoRow, standIns := [], harness := (true, "08ff8027f381de1310b0f709e75640a336bb2e3e3894e98c76a9a714ae3efafb"), looks := false }, kinds := [], alts := [], laidByText := true, laidKinds := [.data], laidTests := true, laidLooks := .later }
def EntryBytesUptoCardSaid : Prop := Claim7.holds Tryd.pinned (.plain (OpenSpec.upto entryBytesSpec)) entryBytesUptoCard

/-- THE SECOND FORM's CARD OF 'cellplanelaw06.EntryBack'. -/
def entryBackUptoCard : Claim7 := { stood := { row := entryBackUptoRow, standIns := [], harness := (true, "08ff8027f381de1310b0f709e75640a336bb2e3e3894e98c76a9a714ae3efafb"), looks := false }, kinds := [], alts := [], laidByText := true, laidKinds := [.data], laidTests := true, laidLooks := .later }
def EntryBackUptoCardSaid : Prop := Claim7.holds Tryd.pinned (.plain (OpenSpec.upto entryBackSpec)) entryBackUptoCard
end Rows
end Go.Proofs.YtanhbebikcoliaaDoor
