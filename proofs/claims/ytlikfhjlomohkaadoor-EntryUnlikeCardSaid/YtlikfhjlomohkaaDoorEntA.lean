/-
  The walks of EntryName and EntryKinds.
-/
import Derived.Test.YtlikfhjlomohkaaDoorEntF
import Derived.Test.YtlikfhjlomohkaaDoorEntRt
import Derived.Test.YtlikfhjlomohkaaDoorEntN
import Derived.Test.YtlikfhjlomohkaaDoorMake
namespace Go.Proofs.YtlikfhjlomohkaaDoor
open Go.ChangeShapes Go.WideShapes Go.ChangeAt Go.RowKit
set_option linter.unusedVariables false

theorem awake6_any (w : World) (hT : TabN w) :
    Calls Tryd.prog 12 #[] w fun e w' => e = .returned (.bool true) ∧ Fr No w w' := by
  have s1 : shapeB ⟨14, 0, -1, -1, -1, 0, 0, 0, 0⟩ = true := by decide
  have s2 : shapeB ⟨0, 0, 0, 0, 0, 0, 0, 0, 0⟩ = false := by decide
  have HT := Lib.hid hT
  clear hT
  go_enter Tryd.func12, Tryd.ntmps12
  go_wp2_with fail
  refine (shape_any ⟨14, 0, -1, -1, -1, 0, 0, 0, 0⟩ _).mono ?_
  rintro e w1 ⟨rfl, f1⟩
  rw [s1]
  have F1 := Lib.hid f1
  clear f1
  go_wp2_with fail
  refine (shape_any ⟨0, 0, 0, 0, 0, 0, 0, 0, 0⟩ _).mono ?_
  rintro e w2 ⟨rfl, f2⟩
  rw [s2]
  have F2 := Lib.hid (F1.out.transNo f2)
  clear f2 F1
  go_wp2_with fail
  refine (name_any 3 _ (HT.out.frNo F2.out)).mono ?_
  rintro e w3 ⟨rfl, rfl⟩
  have n3 : nameN 3 = [99, 117, 116] := by decide
  rw [n3]
  clear n3
  go_wp2_with fail
  refine (name_any 0 _ (HT.out.frNo F2.out)).mono ?_
  rintro e w3 ⟨rfl, rfl⟩
  have n3 : nameN 0 = [] := by decide
  rw [n3]
  clear n3
  go_wp2_with fail
  go_ret
  exact ⟨ret_bool rfl, F2.out⟩

theorem EntryName_walk (a0 : Int) (w : World) (_w0 : (Lit.int .i64 a0).wf = true) (hT : TabN w) :
    Calls Tryd.prog 5 #[.int .i64 a0] w fun e w' => e = .returned (.bool true) ∧ Below w.heap.size w w' := by
  have HT := Lib.hid hT
  clear hT _w0
  go_enter Tryd.func5, Tryd.ntmps5
  go_wp2_with fail
  refine (between_any a0 (-1) 18 _ (by decide) (by decide) (by decide)).mono ?_
  rintro e w1 ⟨rfl, rfl⟩
  generalize -1 + a0 % (18 - -1 + 1) = k
  go_wp2_with fail
  refine (awake6_any _ HT.out).mono ?_
  rintro e w2 ⟨rfl, f2⟩
  have F2 := Lib.hid f2
  clear f2
  go_wp2_with fail
  refine (name_any a0 _ (HT.out.frNo F2.out)).mono ?_
  rintro e w3 ⟨rfl, rfl⟩
  go_wp2_with fail
  refine (rname_any a0 _).mono ?_
  rintro e w4 ⟨rfl, f4⟩
  have F4 := Lib.hid (F2.out.transNo f4)
  clear f4 F2
  go_wp2_with fail
  refine (name_any k _ (HT.out.frNo F4.out)).mono ?_
  rintro e w5 ⟨rfl, rfl⟩
  go_wp2_with fail
  refine (rname_any k _).mono ?_
  rintro e w6 ⟨rfl, f6⟩
  have F6 := Lib.hid (F4.out.transNo f6)
  clear f6 F4
  go_wp2_with fail
  go_ret
  exact ⟨ret_bool (by simp), F6.out.belowNo⟩
end Go.Proofs.YtlikfhjlomohkaaDoor
