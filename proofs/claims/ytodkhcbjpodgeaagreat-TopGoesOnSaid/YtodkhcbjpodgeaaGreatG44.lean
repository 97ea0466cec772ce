/-
  A step of a home and its followers.
-/
import Derived.Test.YtodkhcbjpodgeaaGreatG40
import Derived.Test.YtodkhcbjpodgeaaGreatG41
import Derived.Test.YtodkhcbjpodgeaaGreatG42
import Derived.Test.YtodkhcbjpodgeaaGreatG43
namespace Go.Proofs.YtodkhcbjpodgeaaGreat
open Go.ChangeShapes Go.WideShapes Go.ChangeAt Go.RowKit
set_option linter.unusedVariables false
set_option maxRecDepth 100000
set_option maxHeartbeats 4000000
set_option linter.unusedSimpArgs false
set_option linter.unusedSectionVars false
variable {w w' :World}{lab lab' :Nat→Option Nat}{M:PM}{P:Pr}{G:Nat→Prop}
theorem aas (h:eH w lab M P){n:Nat}(ho:iI P n)(hn:n≤900)(wh a b:Int):
  Calls Tryz.prog 20 #[.pointer (some ⟨M.q,0,none⟩),.agg #[.int .i64 wh,.int .i64 a,.int .i64 b]] w fun e w' =>∃ak' :Int,(aQ P wh a b).ak≤ak'∧ak'≤max (aQ P wh a b).ak (aQ P wh a b).home.h.length∧e= .returned (.bool true)∧bP w lab M {aQ P wh a b with ak:=ak',dS:=ak'} w' :=by
 obtain q|q|q|q|q:((wh % 8=0∨wh % 8=1)∨wh % 8=6∨wh % 8=7)∨wh % 8=2∨wh % 8=3∨wh % 8=4∨wh % 8=5:=by omega
 ·exact ais h ho hn wh a b q
 ·exact aiw h ho hn wh a b q
 ·exact aiv h ho hn wh a b q
 ·exact aiu h ho hn wh a b q
 ·exact ait h ho hn wh a b q
end Go.Proofs.YtodkhcbjpodgeaaGreat
