/-
  The contract of SameLogged; the log of a replica.
-/
import Derived.Test.YtodkhcbjpodgeaaGreatG24
import Derived.Test.YtodkhcbjpodgeaaGreatG13
namespace Go.Proofs.YtodkhcbjpodgeaaGreat
open Go.ChangeShapes Go.WideShapes Go.ChangeAt Go.RowKit
set_option linter.unusedVariables false
set_option maxRecDepth 100000
set_option maxHeartbeats 4000000
section
variable {w w' :World}{F G H:Nat→Prop}{p:Nat}{r:Rs}{s:Js}{n:Nat}
theorem alv (h:RJ w p s n)(hl:s.log.length≤4096):Calls Tryz.prog 265 #[.pointer (some ⟨p,0,none⟩)] w (xJ w s.log):=by
 have hf:Calls Tryz.prog 285 #[.pointer (some ⟨p,0,none⟩),.int .i64 0] w (xJ w s.log):=ag6 h hl 0 (Nat.zero_le _);clear h hl;generalize s.log=l at*;have HF:=O hf;clear hf
 go_in
 go_wp2_with fail
 refine HF.out.mono ?_;rintro e w1 m1;have M:=O m1;obtain ⟨A,c,rfl,-⟩:=m1
 go_wp2_with fail
 go_ret
 exact M.out
end
end Go.Proofs.YtodkhcbjpodgeaaGreat
