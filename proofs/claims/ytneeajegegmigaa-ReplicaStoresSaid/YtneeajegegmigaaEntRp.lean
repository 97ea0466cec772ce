/-
  The contract of the reference's 'places' of an entry.
-/
import Derived.Test.YtneeajegegmigaaEntRs
namespace Go.Proofs.Ytneeajegegmigaa
open Go.ChangeShapes Go.WideShapes Go.ChangeAt Go.RowKit
set_option linter.unusedVariables false

/-- Which of its places a kind uses. -/
theorem uses_places (k : Int) : (hasI k 116 = true ∧ hasI k 99 = true ∧ hasI k 67 = false ∧ hasI k 111 = true ∧ hasI k 114 = false) ∨ (hasI k 116 = true ∧ hasI k 99 = true ∧ hasI k 67 = false ∧ hasI k 111 = false ∧ hasI k 114 = false) ∨
    (hasI k 116 = true ∧ hasI k 99 = false ∧ hasI k 67 = false ∧ hasI k 111 = false ∧ hasI k 114 = false) ∨ (hasI k 116 = true ∧ hasI k 99 = false ∧ hasI k 67 = true ∧ hasI k 111 = false ∧ hasI k 114 = false) ∨
    (hasI k 116 = false ∧ hasI k 99 = true ∧ hasI k 67 = false ∧ hasI k 111 = false ∧ hasI k 114 = false) ∨ (hasI k 116 = false ∧ hasI k 99 = false ∧ hasI k 67 = false ∧ hasI k 111 = false ∧ hasI k 114 = true) ∨
    (hasI k 116 = false ∧ hasI k 99 = false ∧ hasI k 67 = false ∧ hasI k 111 = false ∧ hasI k 114 = false) := by
  have hcase : k = 1 ∨ k = 2 ∨ k = 3 ∨ k = 4 ∨ k = 5 ∨ k = 6 ∨ k = 7 ∨ k = 8 ∨ k = 9 ∨ k = 10 ∨ k = 11 ∨ k = 12 ∨ k = 13 ∨ k = 14 ∨ k = 15 ∨ k = 16 ∨ (k < 1 ∨ 16 < k) := by omega
  rcases hcase with rfl | rfl | rfl | rfl | rfl | rfl | rfl | rfl | rfl | rfl | rfl | rfl | rfl | rfl | rfl | rfl | hk
  iterate 16 · decide
  have hu : usesN k = [63] := by unfold usesN; repeat (first | rw [if_neg (by omega)] | rfl)
  unfold hasI hasN
  rw [hu]
  decide

end Go.Proofs.Ytneeajegegmigaa
