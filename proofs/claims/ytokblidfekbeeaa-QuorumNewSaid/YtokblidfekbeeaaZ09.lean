/-
  Several texts in one: EntR, EntRs, EntRp, EntRt.
-/
import Derived.Test.YtokblidfekbeeaaZ00
import Derived.Test.YtokblidfekbeeaaZ06
import Derived.Deep.RegionHeld3
import Derived.Deep.DeepCutAuto
import Derived.IntWalk
/- The contracts of the reference's shapes of entries. -/
namespace Go.Proofs.Ytokblidfekbeeaa
open Go.ChangeShapes Go.WideShapes Go.ChangeAt Go.RowKit
set_option linter.unusedVariables false

theorem usesN_len (k : Int) : (usesN k).length ≤ 6 := by
  have hcase : k = 1 ∨ k = 2 ∨ k = 3 ∨ k = 4 ∨ k = 5 ∨ k = 6 ∨ k = 7 ∨ k = 8 ∨ k = 9 ∨ k = 10 ∨ k = 11 ∨ k = 12 ∨ k = 13 ∨ k = 14 ∨ k = 15 ∨ k = 16 ∨ (k < 1 ∨ 16 < k) := by omega
  rcases hcase with rfl | rfl | rfl | rfl | rfl | rfl | rfl | rfl | rfl | rfl | rfl | rfl | rfl | rfl | rfl | rfl | hk
  iterate 16 · decide
  have hu : usesN k = [63] := by unfold usesN; repeat (first | rw [if_neg (by omega)] | rfl)
  rw [hu]
  decide

theorem ba_get (l : List UInt8) (j : Nat) (x : UInt8) (h : j < (⟨l.toArray⟩ : ByteArray).size) (hx : l[j]? = some x) : (⟨l.toArray⟩ : ByteArray)[j] = x := by
  have h1 : j < l.length := by
    have h2 : j < l.toArray.size := h
    rwa [List.size_toArray] at h2
  rw [List.getElem?_eq_getElem h1] at hx
  injection hx

end Go.Proofs.Ytokblidfekbeeaa
/- The contract of the reference's 'numbers' of an entry. -/
namespace Go.Proofs.Ytokblidfekbeeaa
open Go.ChangeShapes Go.WideShapes Go.ChangeAt Go.RowKit
set_option linter.unusedVariables false

/-- Whether a kind uses what a byte says. -/
def hasI (k m : Int) : Bool := hasN k (UInt8.ofNat m.toNat)
theorem hasI_t (k : Int) : hasN k 116 = hasI k 116 := rfl
theorem hasI_c (k : Int) : hasN k 99 = hasI k 99 := rfl
theorem hasI_C (k : Int) : hasN k 67 = hasI k 67 := rfl
theorem hasI_o (k : Int) : hasN k 111 = hasI k 111 := rfl
theorem hasI_r (k : Int) : hasN k 114 = hasI k 114 := rfl
theorem hasI_e (k : Int) : hasN k 101 = hasI k 101 := rfl
theorem hasI_w (k : Int) : hasN k 119 = hasI k 119 := rfl
theorem hasI_v (k : Int) : hasN k 118 = hasI k 118 := rfl
theorem hasI_b (k : Int) : hasN k 98 = hasI k 98 := rfl
theorem hasI_m (k : Int) : hasN k 109 = hasI k 109 := rfl
theorem hasI_n (k : Int) : hasN k 110 = hasI k 110 := rfl

end Go.Proofs.Ytokblidfekbeeaa
/- The contract of the reference's 'places' of an entry. -/
namespace Go.Proofs.Ytokblidfekbeeaa
open Go.ChangeShapes Go.WideShapes Go.ChangeAt Go.RowKit
set_option linter.unusedVariables false

/-- Which of its places a kind uses. -/
theorem uses_places (k : Int) : (hasI k 116 = true ∧ hasI k 99 = true ∧ hasI k 67 = false ∧ hasI k 111 = true ∧ hasI k 114 = false) ∨ (hasI k 116 = true ∧ hasI k 99 = true ∧ hasI k 67 = false ∧ hasI k 111 = false ∧ hasI k 114 = false) ∨
    (hasI k 116 = true ∧ hasI k 99 = false ∧ hasI k 67 = false ∧ hasI k 111 = false ∧ hasI k 114 = false) ∨ (hasI k 116 = true ∧ hasI k 99 = false ∧ hasI k 67 = true ∧ hasI k 111 = false ∧ hasI k 114 = false) ∨
    (hasI k 116 = false ∧ hasI k 99 = true ∧ hasI k 67 = false ∧ hasI k 111 = false ∧ hasI k 114 = false) ∨ (hasI k 116 = false ∧ hasI k 99 = false ∧ hasI k 67 = false ∧ hasI k 111 = false ∧ hasI k 114 = true) ∨
    (hasI k 116 = false ∧ hasI k 99 = false ∧ hasI k 67 = false ∧ hasI k 111 = false ∧ hasI k 114 = false) := by
  have hcase : k = 1 ∨ k = 2 ∨ k = 3 ∨ k = 4 ∨ k = 5 ∨ k = 6 ∨ k = 7 ∨ k = 8 ∨ k = 9 ∨ k = 10 ∨ k = 11 ∨ k = 12 ∨ k = 13 ∨ k = 14 ∨ k = 15 ∨ k = 16 ∨ (k < 1 ∨ 16 < k) := by omega
  rcases hcase with rfl | rfl | rfl | rfl | rfl | rfl | rfl | rfl | rfl | rfl | rfl | rfl | rfl | rfl | rfl | rfl | hk
  iterate 16 · decide
  have hu : usesN k = [63] := by unfold usesN; repeat (first | rw [if_neg (by omega)] | rfl)
  unfold hasI hasN
  rw [hu]
  decide

end Go.Proofs.Ytokblidfekbeeaa
/- The contracts of the reference's 'right' and 'Shape' of an entry. -/
namespace Go.Proofs.Ytokblidfekbeeaa
open Go.ChangeShapes Go.WideShapes Go.ChangeAt Go.RowKit
set_option linter.unusedVariables false

end Go.Proofs.Ytokblidfekbeeaa
