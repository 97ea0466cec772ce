/-
  The contracts of note and awake of the journal's statements.
-/
import Derived.Test.YtneeajegegmigaaJrnF
import Derived.Test.YtneeajegegmigaaMake
namespace Go.Proofs.Ytneeajegegmigaa
open Go.ChangeShapes Go.WideShapes Go.ChangeAt Go.RowKit
set_option linter.unusedVariables false

/-- A note with a number. -/
def noteE (m : Int) : En := ⟨16, 0, -1, -1, -1, 0, 0, 0, m⟩
theorem noteE_ok (m : Int) (h : 0 ≤ m) (h2 : m < 1000) : (noteE m).ok := by
  intro x hx
  simp only [noteE, En.l, List.mem_cons, List.not_mem_nil, or_false] at hx
  rcases hx with rfl | rfl | rfl | rfl | rfl | rfl | rfl | rfl | rfl <;> omega
theorem noteE_shape (m : Int) (h : 0 ≤ m) (h2 : m < 1000) : shapeB (noteE m) = true := by
  unfold shapeB fitsB noteE formN inB Sp.has inB
  simp
  omega

/-- A journal of the call's own has turned. -/
theorem JTo.own {w0 w1 w2 : World} {F : Nat → Prop} {j d : Nat} {xs : List UInt8} {k : Nat} {s : Js} (h : JTo w1 F j d xs k s w2) (hf : Fr No w0 w1) (hN : ∀ i, F i → w0.heap.size ≤ i) : ∃ F', JAt w2 F' j d xs k s ∧ (∀ i, F' i → w0.heap.size ≤ i) ∧ Fr No w0 w2 := by
  obtain ⟨F', g1, g2, g3⟩ := h
  exact ⟨F', g1, fun i hi => (g2 i hi).elim (fun h => hN i h) (fun h => Nat.le_trans hf.size h), hf.transNew g3 hN⟩
theorem crashN_zero (len k : Nat) (h : k ≤ len) : crashN len k 0 = k := by unfold crashN; omega

end Go.Proofs.Ytneeajegegmigaa
