/-
  The contract of the reference's 'numbers' of an entry.
-/
import Derived.Test.YtneeajegegmigaaEntR
import Derived.Test.YtneeajegegmigaaEntV
namespace Go.Proofs.Ytneeajegegmigaa
open Go.ChangeShapes Go.WideShapes Go.ChangeAt Go.RowKit
set_option linter.unusedVariables false

/-- Whether a kind uses what a byte says. -/
def hasI (k m : Int) : Bool := hasN k (UInt8.ofNat m.toNat)
theorem hasI_t (k : Int) : hasN k 116 = hasI k 116 := rfl
theorem hasI_c (k : Int) : hasN k 99 = hasI k 99 := rfl
theorem hasI_C (k : Int) : hasN k 67 = hasI k 67 := rfl
theorem hasI_o (k : Int) : hasN k 111 = hasI k 111 := rfl
theorem hasI_r (k : Int) : hasN k 114 = hasI k 114 := rfl
theorem hasI_e (k : Int) : hasN k 101 = hasI k 101 := rfl
theorem hasI_w (k : Int) : hasN k 119 = hasI k 119 := rfl
theorem hasI_v (k : Int) : hasN k 118 = hasI k 118 := rfl
theorem hasI_b (k : Int) : hasN k 98 = hasI k 98 := rfl
theorem hasI_m (k : Int) : hasN k 109 = hasI k 109 := rfl
theorem hasI_n (k : Int) : hasN k 110 = hasI k 110 := rfl

end Go.Proofs.Ytneeajegegmigaa
