/-
  Words for EntryShape and EntryValid.
-/
import Derived.Test.YtanhbebikcoliaaDoorG5
import Derived.Test.YtanhbebikcoliaaDoorEl
import Derived.Test.YtanhbebikcoliaaDoorG11
import Derived.Test.YtanhbebikcoliaaDoorG4
namespace Go.Proofs.YtanhbebikcoliaaDoor
open Go.ChangeShapes Go.WideShapes Go.ChangeAt Go.RowKit
set_option linter.unusedVariables false
/-- A new block that holds an entry. -/
def YAt (w : World) (e : En) (p : Value) (w' : World) : Prop := ∃ g, p = .pointer (some ⟨g, 0, none⟩) ∧ Blk w' g TEnt #[.int .i64 e.kind, .int .i64 e.tick, .int .i64 e.tenant, .int .i64 e.cell, .int .i64 e.other, .int .i64 e.epoch, .int .i64 e.from_, .int .i64 e.until_, .int .i64 e.n] ∧ Fr No w w'
theorem YAt.a {w v : World} (e : En) (hf : Fr No w v) : YAt w e (.pointer (some ⟨v.heap.size, 0, none⟩)) (v.alloc (.cells #[.int .i64 e.kind, .int .i64 e.tick, .int .i64 e.tenant, .int .i64 e.cell, .int .i64 e.other, .int .i64 e.epoch, .int .i64 e.from_, .int .i64 e.until_, .int .i64 e.n] TEnt)) :=
  ⟨_, rfl, Blk.new _ _ _, hf.alloc _⟩
theorem YAt.b {w v : World} (e : En) (q : Nat) (hz : Blk v q TEnt #[.int .i64 0, .int .i64 0, .int .i64 0, .int .i64 0, .int .i64 0, .int .i64 0, .int .i64 0, .int .i64 0, .int .i64 0]) (hq : w.heap.size ≤ q) (hf : Fr No w v) : YAt w e (.pointer (some ⟨q, 0, none⟩)) (World.setCell (World.setCell (World.setCell (World.setCell (World.setCell (World.setCell (World.setCell (World.setCell (World.setCell v ⟨q, 0, none⟩ (.int .i64 e.kind)) ⟨q, 1, none⟩ (.int .i64 e.tick)) ⟨q, 2, none⟩ (.int .i64 e.tenant)) ⟨q, 3, none⟩ (.int .i64 e.cell)) ⟨q, 4, none⟩ (.int .i64 e.other)) ⟨q, 5, none⟩ (.int .i64 e.epoch)) ⟨q, 6, none⟩ (.int .i64 e.from_)) ⟨q, 7, none⟩ (.int .i64 e.until_)) ⟨q, 8, none⟩ (.int .i64 e.n)) :=
  ⟨q, rfl, (en_fill e rfl hz), (hf.transNew (en_fill_fr e) (fun i hi => by have hi : i = q := hi; omega))⟩
theorem fits_cf {c : Cf} (h : CfB c) (e : En) : (shapeB e && fitsB e c.nt c.nc c.rg c.nv) = fitsB e c.nt c.nc c.rg c.nv := by
  obtain ⟨h1, h2, h3, h4⟩ := h
  rw [fits_shape, show min (c.nt : Int) 32 = c.nt from by omega, show min (c.nc : Int) 16 = c.nc from by omega, show min (c.rg : Int) 4 = c.rg from by omega, show min (c.nv : Int) 30 = c.nv from by omega, fitsB_eq]
theorem valid_cf {w : World} {c : Cf} (e : En) (h : CfB c) : Calls Tryd.prog 15 #[.agg c.arr, e.v] w fun r w' => r = .returned (.bool (fitsB e c.nt c.nc c.rg c.nv)) ∧ Fr No w w' := by
  have := valid_any (w := w) (c := c) e h.1 h.2.1 h.2.2.1 h.2.2.2
  rwa [fits_cf h] at this
end Go.Proofs.YtanhbebikcoliaaDoor
