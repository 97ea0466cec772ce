/-
  Short words for walks by hand (a claim may hold 1500000 bytes).
-/
import Derived.Test.YtodkhcbjpodgeaaGreatG03
import Derived.OrdersHeld
namespace Go.Proofs.YtodkhcbjpodgeaaGreat
open Go.ChangeShapes Go.WideShapes Go.ChangeAt Go.RowKit
set_option linter.unusedVariables false
set_option maxRecDepth 100000
set_option maxHeartbeats 4000000
theorem zc {α:Type _}{x:α}{xs:List α}{i:Nat}{a:α}:(x :: xs).set (i+1) a=x :: xs.set i a:=rfl
theorem ze {α:Type _}(a:α)(l:List α)(h:0<(a :: l).length):(a :: l)[0]=a:=rfl
section
variable {P:Program}{ops:Array Oper}{Q:Exit→Act→World→Prop}{md:Region.Mode}{S:World→Prop}
end
section
theorem J {α:Type _}:(∀(l:List α) (i:Nat) (a:α),l.toArray.setIfInBounds i a=(l.set i a).toArray)∧(∀(x:α) (xs:List α) (a:α),(x :: xs).set 0 a=a :: xs)∧(∀(x:α) (xs:List α) (i:Nat) (a:α),(x :: xs).set (i+1) a=x :: xs.set i a)∧(∀(xs:List α) (i:Nat) (h:i<xs.toArray.size),xs.toArray[i]=xs[i])∧(∀(a:α) (l:List α) (h:0<(a :: l).length),(a :: l)[0]=a)∧(∀(a:α) (l:List α) (i:Nat) (h:i+1<(a :: l).length),(a :: l)[i+1]=l[i]'(Nat.lt_of_succ_lt_succ h)):=⟨fun l i a=>List.setIfInBounds_toArray l i a,fun _ _ _=>rfl,fun _ _ _ _=>rfl,fun _ _ _=>rfl,fun _ _ _=>rfl,fun _ _ _ _=>rfl⟩
variable {P:Program}{ops:Array Oper}{Q:Exit→Act→World→Prop}{md:Region.Mode}{S:World→Prop}
theorem I (i:Nat){oi:Oper}{v:Value}{fuel:Nat}{listed:Array Bool}{a:Act}{w:World}(hi:ops[i]? =some oi)
  (h:wpAnyH P md ops Q S fuel (listed.setIfInBounds i true) (a.put oi.dst v) w)
  (hy:∀w,S w→(execOp a.eval oi).run P w= .ok (.value v) w:=by (intro w hSw;(try dsimp only at hSw);go_simp)<;>with_reducible rfl)
  (hs:Region.noSelect ops=true:=by kernel_rfl) (hf:Region.free md ops listed i=true:=by kernel_rfl) (hr:(Region.ready md ops listed).contains i=true:=by kernel_rfl)
  (hQ:∀c a w,Q (.panic c) (a.put oi.dst v) w→Q (.panic c) a w:=by exact fun _ _ _ h=>h) (hw:Region.wanted oi (yielded ops a.tmps)=true:=by rfl) (hS:S w:=by assumption):wpAnyH P md ops Q S (fuel+1) listed a w:=
 wpAnyH_take hi hs hf hr hQ (.inl ⟨hw,hy⟩) hS h
theorem ax2 (i:Nat){o p:Oper}{fuel:Nat}{listed:Array Bool}{a:Act}{w:World}(hi:ops[i]? =some o)(hj:ops[i+1]? =some p)
  (h:wpAnyH P md ops Q S fuel ((listed.setIfInBounds i true).setIfInBounds (i+1) true) ((a.put o.dst undef).put p.dst undef) w)
  (hs:Region.noSelect ops=true:=by kernel_rfl) (f1:Region.free md ops listed i=true:=by kernel_rfl) (r1:(Region.ready md ops listed).contains i=true:=by kernel_rfl)
  (f2:Region.free md ops (listed.setIfInBounds i true) (i+1)=true:=by kernel_rfl) (r2:(Region.ready md ops (listed.setIfInBounds i true)).contains (i+1)=true:=by kernel_rfl)
  (q1:∀c a w,Q (.panic c) (a.put o.dst undef) w→Q (.panic c) a w:=by exact fun _ _ _ h=>h) (q2:∀c a w,Q (.panic c) (a.put p.dst undef) w→Q (.panic c) a w:=by exact fun _ _ _ h=>h)
  (w1:Region.wanted o (yielded ops a.tmps)=false:=by rfl) (w2:Region.wanted p (yielded ops (a.put o.dst undef).tmps)=false:=by rfl) (hS:S w:=by assumption):wpAnyH P md ops Q S (fuel+1+1) listed a w:=
 wpAnyH_take hi hs f1 r1 q1 (.inr ⟨w1,rfl⟩) hS (wpAnyH_take hj hs f2 r2 q2 (.inr ⟨w2,rfl⟩) hS h)
end
end Go.Proofs.YtodkhcbjpodgeaaGreat
