/-
  The contracts of the reference's shapes of entries.
-/
import Derived.Test.YtneeajegegmigaaEntP
import Derived.Test.YtneeajegegmigaaFr
import Derived.Deep.RegionHeld3
import Derived.Deep.DeepCutAuto
import Derived.IntWalk
namespace Go.Proofs.Ytneeajegegmigaa
open Go.ChangeShapes Go.WideShapes Go.ChangeAt Go.RowKit
set_option linter.unusedVariables false

theorem usesN_len (k : Int) : (usesN k).length ≤ 6 := by
  have hcase : k = 1 ∨ k = 2 ∨ k = 3 ∨ k = 4 ∨ k = 5 ∨ k = 6 ∨ k = 7 ∨ k = 8 ∨ k = 9 ∨ k = 10 ∨ k = 11 ∨ k = 12 ∨ k = 13 ∨ k = 14 ∨ k = 15 ∨ k = 16 ∨ (k < 1 ∨ 16 < k) := by omega
  rcases hcase with rfl | rfl | rfl | rfl | rfl | rfl | rfl | rfl | rfl | rfl | rfl | rfl | rfl | rfl | rfl | rfl | hk
  iterate 16 · decide
  have hu : usesN k = [63] := by unfold usesN; repeat (first | rw [if_neg (by omega)] | rfl)
  rw [hu]
  decide

theorem ba_get (l : List UInt8) (j : Nat) (x : UInt8) (h : j < (⟨l.toArray⟩ : ByteArray).size) (hx : l[j]? = some x) : (⟨l.toArray⟩ : ByteArray)[j] = x := by
  have h1 : j < l.length := by
    have h2 : j < l.toArray.size := h
    rwa [List.size_toArray] at h2
  rw [List.getElem?_eq_getElem h1] at hx
  injection hx

end Go.Proofs.Ytneeajegegmigaa
