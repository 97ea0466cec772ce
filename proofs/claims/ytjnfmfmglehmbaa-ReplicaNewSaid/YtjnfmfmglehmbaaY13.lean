/-
  The contracts of both Reads of an entry.
-/
import Derived.Test.YtjnfmfmglehmbaaY12
import Derived.Test.YtjnfmfmglehmbaaY00
import Derived.Test.YtjnfmfmglehmbaaY05
import Derived.Deep.RegionHeld3
import Derived.Deep.DeepCutAuto
import Derived.IntWalk
import Derived.Test.YtjnfmfmglehmbaaY07
import Derived.Laws.BitsAllLaws
namespace Go.Proofs.Ytjnfmfmglehmbaa
open Go.ChangeShapes Go.WideShapes Go.ChangeAt Go.RowKit
set_option linter.unusedVariables false
set_option maxRecDepth 100000
set_option maxHeartbeats 16000000
abbrev enZero:En:=⟨0,0,0,0,0,0,0,0,0⟩
structure RdT where
 e:En
 k:Nat
 x:Int
def finE (t:IntsT):RdT:=if t.e=0 then (if shapeB (En.of t.q) then ⟨En.of t.q,t.k,0⟩ else ⟨enZero,0,18⟩) else ⟨enZero,0,t.e⟩
def readE (l:List UInt8):RdT:=finE (intsG 9 l 0 [])
end Go.Proofs.Ytjnfmfmglehmbaa
