/-
  The contracts of the wire's reference: code, Int.
-/
import Derived.Test.YtneeajegegmigaaWir
namespace Go.Proofs.Ytneeajegegmigaa
open Go.ChangeShapes Go.WideShapes Go.ChangeAt Go.RowKit

end Go.Proofs.Ytneeajegegmigaa
