/-
  The contracts of the reference's 'right' and 'Shape' of an entry.
-/
import Derived.Test.YtneeajegegmigaaEntRp
namespace Go.Proofs.Ytneeajegegmigaa
open Go.ChangeShapes Go.WideShapes Go.ChangeAt Go.RowKit
set_option linter.unusedVariables false

end Go.Proofs.Ytneeajegegmigaa
