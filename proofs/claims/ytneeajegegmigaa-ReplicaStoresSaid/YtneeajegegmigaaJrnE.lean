/-
  The contracts of take and replay of the journal.
-/
import Derived.Test.YtneeajegegmigaaJrnD
namespace Go.Proofs.Ytneeajegegmigaa
open Go.ChangeShapes Go.WideShapes Go.ChangeAt Go.RowKit
set_option linter.unusedVariables false

theorem setTermS_no {s : Js} {t v : Int} (h : setTermX s t v ≠ 0) : setTermS s t v = s := by unfold setTermS; rw [if_neg h]
theorem addS_no {s : Js} {t : Int} {e : En} (h : addX s t e ≠ 0) : addS s t e = s := by unfold addS; rw [if_neg h]
theorem cutS_no {s : Js} {n : Int} (h : cutX s n ≠ 0) : cutS s n = s := by unfold cutS; rw [if_neg h]

/-- What replay leaves. -/
def RepTo (w : World) (F : Nat → Prop) (j d : Nat) (xs : List UInt8) (k : Nat) (s : Js) (R : Option Js) (e : Ending) (w' : World) : Prop := e = .returned (.bool R.isSome) ∧ JTo w F j d xs k (R.getD s) w'

end Go.Proofs.Ytneeajegegmigaa
