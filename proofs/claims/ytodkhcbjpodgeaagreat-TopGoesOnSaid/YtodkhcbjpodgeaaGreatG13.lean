/-
  Slices whose elements have several cells: how an argument is opened, how an element is read.
-/
import Derived.Test.YtodkhcbjpodgeaaGreatG07
import Derived.Deep.Slices
import Derived.Deep.Fields
import Derived.ChangeSame
namespace Go.Proofs.YtodkhcbjpodgeaaGreat
open Go.ChangeShapes Go.WideShapes Go.ChangeAt Go.RowKit
set_option linter.unusedVariables false
set_option maxRecDepth 100000
set_option maxHeartbeats 4000000
section
theorem uW {xs:List (List Value)}{size:Nat}(h:∀x∈xs,x.length=size)(i j:Nat)(hi:i<xs.length)(hj:j<size):xs.flatten[i*size+j]? =(xs[i])[j]? :=by
 induction xs generalizing i with
 |nil=>simp at hi
 |cons x xs ih=>
  have hx:=h x (by simp)
  rcases i with _|i
  ·rw [List.flatten_cons,Nat.zero_mul,Nat.zero_add,List.getElem?_append_left oy]
   rfl
  ·rw [List.flatten_cons,List.getElem?_append_right (by rw [hx,Nat.succ_mul];omega),hx]
   rw [show (i+1)*size+j-size=i*size+j from by rw [Nat.succ_mul];omega]
   simpa using ih (fun y hy=>h y (by simp [hy])) i (by simpa using hi)
theorem uV {xs:List (List Value)}{size:Nat}(h:∀x∈xs,x.length=size):xs.flatten.length=xs.length*size:=by
 induction xs with
 |nil=>simp
 |cons x xs ih=>rw [List.flatten_cons,List.length_append,h x (by simp),ih (fun y hy=>h y (by simp [hy])),List.length_cons,Nat.succ_mul];omega
section
variable {H:Type}{enc:TypeId×Value→H}{P:Program}{w:World}{base:Nat}{held:Bool}
end
section
variable {w w' :World}{size:Nat}{R:List Value→Prop}{A:Option Addr}{len cap:Nat}{xs:List (List Value)}
end
section
variable {H:Type}{enc:TypeId×Value→H}{P:Program}{w:World}{base:Nat}{spare:Nat→Bool}{held:Bool}
end
end
structure agq where
 which:Int
 a:Int
 b:Int
def agq.cells (x:agq):List Value:=[.int .i64 x.which,.int .i64 x.a,.int .i64 x.b]
structure agq.ok (x:agq):Prop where
 which: -9223372036854775808≤x.which∧x.which≤9223372036854775807
 a: -9223372036854775808≤x.a∧x.a≤9223372036854775807
 b: -9223372036854775808≤x.b∧x.b≤9223372036854775807
structure tC (w:World) (A:Option Addr) (len cap:Nat) (acts:List agq):Prop where
 count:acts.length=len
 most:len≤maxLen
 ax3:A=none→len=0
 reads:Rd w w.heap.size A (acts.map agq.cells).flatten
 each:∀a∈acts,a.ok
def In_tst (w:World)(v:Value):Prop:=∃A len cap acts,v= .slice A len cap∧tC w A len cap acts
theorem tC.at_ {w w' :World}{A:Option Addr}{len cap:Nat}{acts:List agq}(h:tC w A len cap acts)(hf:Fr No w w'){i:Nat}(hi:i<len):
  ∃b off a,A=some ⟨b,off,none⟩∧acts[i]? =some a∧a.ok∧w'.cell? ⟨b,off+i*3,none⟩=some (.int .i64 a.which)∧w'.cell? ⟨b,off+i*3+1,none⟩=some (.int .i64 a.a)∧w'.cell? ⟨b,off+i*3+2,none⟩=some (.int .i64 a.b):=by
 have hsz:∀x∈acts.map agq.cells,x.length=3:=by
  intro x hx;obtain ⟨a,_,rfl⟩:=List.mem_map.1 hx
  rfl
 have hil:i<acts.length:=by rw [h.count];exact hi
 have hfl:=uV hsz;rw [List.length_map] at hfl;obtain ⟨b,off,hA,hb,hc⟩:=(h.reads.au hf (Nat.le_refl _)).at_ (by rw [hfl];omega);have hg:∀j,j<3→w'.cell? ⟨b,off+(i*3+j),none⟩=(acts[i].cells)[j]? :=by
  intro j hj;rw [hc (i*3+j) (by rw [hfl];omega),←List.getElem?_eq_getElem,uW hsz i j (by simpa using hil) hj]
  simp
 exact ⟨b,off,acts[i],hA,List.getElem?_eq_getElem hil,h.each _ (List.getElem_mem hil),hg 0 oy,hg 1 oy,hg 2 oy⟩
theorem tC.at2 {w:World}{A:Option Addr}{len cap:Nat}{acts:List agq}(h:tC w A len cap acts){i:Nat}(hi:i<len):
  ∃b off a,A=some ⟨b,off,none⟩∧acts[i]? =some a∧a.ok∧∀w' :World,Fr No w w'→w'.cell? ⟨b,off+i*3,none⟩=some (.int .i64 a.which)∧w'.cell? ⟨b,off+i*3+1,none⟩=some (.int .i64 a.a)∧w'.cell? ⟨b,off+i*3+2,none⟩=some (.int .i64 a.b):=by
 obtain ⟨b,off,a,rfl,ha,hok,_⟩:=h.at_ (Fr.refl No w) hi;refine ⟨b,off,a,rfl,ha,hok,fun w' hf=> ?_⟩;obtain ⟨b',off',a',e1,e2,_,h1,h2,h3⟩:=h.at_ hf hi;rw [ha] at e2;injection e1 with e1;injection e1 with e3 e4;injection e2 with e2;subst e2 e3 e4;exact ⟨h1,h2,h3⟩
end Go.Proofs.YtodkhcbjpodgeaaGreat
