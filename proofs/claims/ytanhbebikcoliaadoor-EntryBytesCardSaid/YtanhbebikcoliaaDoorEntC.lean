/-
  What the rows' listed table gives, and a world that holds it.
-/
import Derived.Test.YtanhbebikcoliaaDoorEntN
import Derived.Test.YtanhbebikcoliaaDoorRows
namespace Go.Proofs.YtanhbebikcoliaaDoor
open Go.ChangeShapes Go.WideShapes Go.ChangeAt Go.RowKit

/-- What the rows' list gives: the table's cells hold the names. -/
theorem tabN_of {W : World} (h : laidMetH Tryd.prog [("cellplane/entry.names", Rows.laid_cellplane_entry_names)] W) : TabN W :=
  tabS_of_head (ss := names16) (rest := []) (g := 0) (show Tryd.prog.globalNamed "cellplane/entry.names" = some 0 by kernel_rfl) (show (Tryd.prog.globals[0]?).map (·.type) = some 67 by kernel_rfl) Tryd.underlying67 Tryd.underlying9 (by kernel_rfl) h

/-- A world that holds the table. -/
noncomputable def laidWorld (os : Os) : World :=
  { World.holding Tryd.prog os ⟨#[], #[], []⟩ with heap := (World.holding Tryd.prog os ⟨#[], #[], []⟩).heap.modify 0 fun
      | .cells _ t frozen => .cells #[.string ⟨#[112, 108, 97, 99, 101]⟩, .string ⟨#[103, 114, 97, 110, 116]⟩, .string ⟨#[99, 117, 116]⟩, .string ⟨#[115, 116, 97, 110, 100, 98, 121]⟩, .string ⟨#[114, 101, 97, 100, 121]⟩, .string ⟨#[109, 105, 103, 114, 97, 116, 101]⟩, .string ⟨#[97, 98, 97, 110, 100, 111, 110]⟩, .string ⟨#[115, 104, 101, 100]⟩, .string ⟨#[109, 111, 100, 101]⟩, .string ⟨#[119, 97, 110, 116]⟩, .string ⟨#[114, 117, 110, 115]⟩, .string ⟨#[112, 114, 111, 118, 101]⟩, .string ⟨#[101, 118, 97, 99, 117, 97, 116, 101]⟩, .string ⟨#[101, 120, 112, 97, 110, 100]⟩, .string ⟨#[99, 111, 110, 116, 114, 97, 99, 116]⟩, .string ⟨#[110, 111, 116, 101]⟩] t frozen
      | o => o }
end Go.Proofs.YtanhbebikcoliaaDoor
