/-
  The contracts of both Reads of an entry.
-/
import Derived.Test.YtodkhcbjpodgeaaGreatG18
import Derived.Test.YtodkhcbjpodgeaaGreatG11
import Derived.Laws.BitsAllLaws
namespace Go.Proofs.YtodkhcbjpodgeaaGreat
open Go.ChangeShapes Go.WideShapes Go.ChangeAt Go.RowKit
set_option linter.unusedVariables false
set_option maxRecDepth 100000
set_option maxHeartbeats 4000000
abbrev T9:TypeId:=398
abbrev ach:En:=⟨0,0,0,0,0,0,0,0,0⟩
structure RdT where
 e:En
 k:Nat
 x:Int
def aur (t:an5):RdT:=if t.e=0 then (if fF (En.of t.q) then ⟨En.of t.q,t.k,0⟩ else ⟨ach,0,18⟩) else ⟨ach,0,t.e⟩
def yw (l:List UInt8):RdT:=aur (abk 9 l 0 [])
end Go.Proofs.YtodkhcbjpodgeaaGreat
