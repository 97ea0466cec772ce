/-
  The walks of EntryName and EntryKinds.
-/
import Derived.Test.YtanhbebikcoliaaDoorEntF
import Derived.Test.YtanhbebikcoliaaDoorG4
import Derived.Test.YtanhbebikcoliaaDoorEntN
import Derived.Test.YtanhbebikcoliaaDoorG1
namespace Go.Proofs.YtanhbebikcoliaaDoor
open Go.ChangeShapes Go.WideShapes Go.ChangeAt Go.RowKit
set_option linter.unusedVariables false

theorem awake6_any (w : World) (hT : TabN w) :
    Calls Tryd.prog 9 #[] w fun e w' => e = .returned (.bool true) ∧ Fr No w w' := by
  have s1 : shapeB ⟨14, 0, -1, -1, -1, 0, 0, 0, 0⟩ = true := by decide
  have s2 : shapeB ⟨0, 0, 0, 0, 0, 0, 0, 0, 0⟩ = false := by decide
  have HT := Lib.hid hT
  clear hT
  go_enter Tryd.func9, Tryd.ntmps9
  go_wp2_with fail
  refine (shape_any ⟨14, 0, -1, -1, -1, 0, 0, 0, 0⟩ _).mono ?_
  rintro e w1 ⟨rfl, f1⟩
  rw [s1]
  have F1 := Lib.hid f1
  clear f1
  go_wp2_with fail
  refine (shape_any ⟨0, 0, 0, 0, 0, 0, 0, 0, 0⟩ _).mono ?_
  rintro e w2 ⟨rfl, f2⟩
  rw [s2]
  have F2 := Lib.hid (F1.out.transNo f2)
  clear f2 F1
  go_wp2_with fail
  refine (name_any 3 _ (HT.out.frNo F2.out)).mono ?_
  rintro e w3 ⟨rfl, rfl⟩
  have n3 : nameN 3 = [99, 117, 116] := by decide
  rw [n3]
  clear n3
  go_wp2_with fail
  refine (name_any 0 _ (HT.out.frNo F2.out)).mono ?_
  rintro e w3 ⟨rfl, rfl⟩
  have n3 : nameN 0 = [] := by decide
  rw [n3]
  clear n3
  go_wp2_with fail
  go_ret
  exact ⟨ret_bool rfl, F2.out⟩

end Go.Proofs.YtanhbebikcoliaaDoor
