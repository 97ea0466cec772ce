/-
  Entries as values.
-/
import Derived.Test.YtneeajegegmigaaEntP
import Derived.Test.YtneeajegegmigaaFr
namespace Go.Proofs.Ytneeajegegmigaa
open Go.ChangeShapes Go.WideShapes Go.ChangeAt Go.RowKit
set_option linter.unusedVariables false

/-- An entry as a value. -/
def En.v (e : En) : Value := .agg #[.int .i64 e.kind, .int .i64 e.tick, .int .i64 e.tenant, .int .i64 e.cell, .int .i64 e.other, .int .i64 e.epoch, .int .i64 e.from_, .int .i64 e.until_, .int .i64 e.n]
abbrev TEnt : TypeId := 45
theorem ent_cells {w : World} {g : Nat} {a b c d e f x y z : Value} (h : Blk w g TEnt #[a, b, c, d, e, f, x, y, z]) : w.cell? ⟨g, 0, none⟩ = some a ∧ w.cell? ⟨g, 1, none⟩ = some b ∧ w.cell? ⟨g, 2, none⟩ = some c ∧ w.cell? ⟨g, 3, none⟩ = some d ∧ w.cell? ⟨g, 4, none⟩ = some e ∧ w.cell? ⟨g, 5, none⟩ = some f ∧ w.cell? ⟨g, 6, none⟩ = some x ∧ w.cell? ⟨g, 7, none⟩ = some y ∧ w.cell? ⟨g, 8, none⟩ = some z :=
  ⟨h.cell 0, h.cell 1, h.cell 2, h.cell 3, h.cell 4, h.cell 5, h.cell 6, h.cell 7, h.cell 8⟩

theorem blk_drew {w : World} {g : Nat} {t : TypeId} {cs : Array Value} (h : Blk w g t cs) : Blk w.drew g t cs := h
end Go.Proofs.Ytneeajegegmigaa
