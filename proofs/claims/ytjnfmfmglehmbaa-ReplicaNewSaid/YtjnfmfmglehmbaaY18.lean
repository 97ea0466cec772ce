/-
  The program's replica: an append message that fits is taken.
-/
import Derived.Test.YtjnfmfmglehmbaaY17
import Derived.Test.YtjnfmfmglehmbaaY02
import Derived.OrdersHeld
namespace Go.Proofs.Ytjnfmfmglehmbaa
open Go.ChangeShapes Go.WideShapes Go.ChangeAt Go.RowKit
set_option linter.unusedVariables false
set_option maxRecDepth 100000
set_option maxHeartbeats 16000000
theorem logV_drop (l:List Lg) (k:Nat):(logV l).drop (k*10)=logV (l.drop k):=by
 have h1:logV l=logV (l.take k)++logV (l.drop k):=by
  unfold logV
  rw [←List.flatMap_append,List.take_append_drop]
 by_cases hk:k≤l.length
 ·have h2:(logV (l.take k)).length=k*10:=by rw [logV_len,List.length_take];congr 1;omega
  rw [h1,←h2,List.drop_left]
 ·rw [List.drop_eq_nil_of_le (show l.length≤k by omega),List.drop_eq_nil_of_le (by rw [logV_len];omega)]
  rfl
theorem Ent.drop {w:World} {G:Nat→Prop} {b off n c k:Nat} {es:List Lg} (h:Ent w G (.slice (some ⟨b,off,none⟩) n c) es) (hk:k<es.length):Ent w G (.slice (some ⟨b,off+k*10,none⟩) (es.drop k).length (c-k)) (es.drop k):=by
 obtain ⟨A',c',h1,h2,h3,h4,h5⟩:=h
 injection h1 with e1 e2 e3
 subst e1 e2 e3
 rcases h5 with rfl|⟨b',off',e1,e2,e3,e4⟩
 ·simp at hk
 injection e1 with e1
 injection e1 with e5 e6
 subst e5 e6
 refine ⟨_,_,rfl,(fun hh=>by cases hh),by rw [List.length_drop];omega,by omega,.inr ⟨b,off+k*10,rfl,e2,e3,fun q hq=> ?_⟩⟩
 have hl:=logV_len es
 have hd:=logV_drop es k
 have hq2:k*10+q<(logV es).length:=by rw [←hd,List.length_drop] at hq;omega
 have:=e4 (k*10+q) hq2
 rw [show off+k*10+q=off+(k*10+q) from by omega,this]
 simp only [←hd,List.getElem_drop]
section
variable {w w' :World} {F G:Nat→Prop} {p:Nat} {r:Rs} {s:Js} {n:Nat}
end
end Go.Proofs.Ytjnfmfmglehmbaa
