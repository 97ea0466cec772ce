/-
  The literal of the pair behind a failover: the words.
-/
import Derived.Test.YtodkhcbjpodgeaaGreatG47
import Derived.Test.YtodkhcbjpodgeaaGreatG10
namespace Go.Proofs.YtodkhcbjpodgeaaGreat
open Go.ChangeShapes Go.WideShapes Go.ChangeAt Go.RowKit
set_option linter.unusedVariables false
set_option maxRecDepth 100000
set_option maxHeartbeats 4000000
set_option linter.unusedSimpArgs false
def zF (wo:World)(M:PM)(i:Nat)(v:Value)(w:World):Prop:=
 if i=16 then ∃g,v= .slice (some ⟨g,0,none⟩) 2 2∧wo.heap.size≤g∧Blk w g qL #[.pointer (some ⟨M.hp,0,none⟩),.pointer (some ⟨M.cp 1,0,none⟩)]
 else if i=21 then ∃g,v= .pointer (some ⟨g,0,none⟩)∧wo.heap.size≤g∧Blk w g TFw #[.pointer (some ⟨M.hp,0,none⟩),.int .i64 0,.int .i64 0]
 else if i=28 then ∃g f,v= .slice (some ⟨g,0,none⟩) 2 2∧wo.heap.size≤g∧wo.heap.size≤f∧Blk w g pG #[.pointer (some ⟨f,0,none⟩),.pointer (some ⟨M.fp 1,0,none⟩)]∧Blk w f TFw #[.pointer (some ⟨M.hp,0,none⟩),.int .i64 0,.int .i64 0]
 else if i=29 then ∃g,v= .slice (some ⟨g,0,none⟩) 2 2∧wo.heap.size≤g∧Blk w g aj3 #[.slice none 0 0,.slice none 0 0]
 else ∃g,v= .slice (some ⟨g,0,none⟩) 2 2∧wo.heap.size≤g∧Blk w g aj4 #[.slice none 0 0,.slice none 0 0]
theorem zF.mono {wo:World}{M:PM}{i:Nat}{v:Value}{w w' :World}(h:zF wo M i v w)(f:Fr No w w'):zF wo M i v w' :=by
 unfold zF at h ⊢
 split at h
 ·rename_i e
  rw [if_pos e];obtain ⟨g,h1,h2,h3⟩:=h;exact ⟨g,h1,h2,h3.fr f id⟩
 ·rename_i e
  rw [if_neg e]
  split at h
  ·rename_i e
   rw [if_pos e];obtain ⟨g,h1,h2,h3⟩:=h;exact ⟨g,h1,h2,h3.fr f id⟩
  ·rename_i e
   rw [if_neg e]
   split at h
   ·rename_i e
    rw [if_pos e];obtain ⟨g,k,h1,h2,h3,h4,h5⟩:=h;exact ⟨g,k,h1,h2,h3,h4.fr f id,h5.fr f id⟩
   ·rename_i e
    rw [if_neg e]
    split at h
    ·rename_i e
     rw [if_pos e];obtain ⟨g,h1,h2,h3⟩:=h;exact ⟨g,h1,h2,h3.fr f id⟩
    ·rename_i e
     rw [if_neg e];obtain ⟨g,h1,h2,h3⟩:=h;exact ⟨g,h1,h2,h3.fr f id⟩
theorem alh {L:List Nat}{p:Nat→Prop}(c:Nat→Bool)(h1:(!L.isEmpty && L.all c)=true)(h2:∀i,c i=true→p i):L≠[]∧∀i∈L,p i:=by
 rw [Bool.and_eq_true,List.all_eq_true] at h1;refine ⟨fun e=> ?_,fun i hi=>h2 i (h1.2 i hi)⟩;rw [e] at h1
 simp at h1
theorem aem {ev:Operand→Value}{o:Oper}{x y:Operand}(w:World){a b:Nat}(ho:o.op= .buildSlice 62 2 #[(0,x),(1,y)])(h0:ev x= .pointer (some ⟨a,0,none⟩))(h1:ev y= .pointer (some ⟨b,0,none⟩)):
  (execOp ev o).run Tryz.prog w= .ok (.value (.slice (some ⟨w.heap.size,0,none⟩) 2 2)) (w.alloc (.cells #[.pointer (some ⟨a,0,none⟩),.pointer (some ⟨b,0,none⟩)] qL)):=by
 unfold execOp;simp only [ho,List.map_toArray,List.map_cons,List.map_nil,h0,h1]
 kernel_rfl
theorem ael {ev:Operand→Value}{o:Oper}{x y:Operand}(w:World){a b:Nat}(ho:o.op= .buildSlice 63 2 #[(0,x),(1,y)])(h0:ev x= .pointer (some ⟨a,0,none⟩))(h1:ev y= .pointer (some ⟨b,0,none⟩)):
  (execOp ev o).run Tryz.prog w= .ok (.value (.slice (some ⟨w.heap.size,0,none⟩) 2 2)) (w.alloc (.cells #[.pointer (some ⟨a,0,none⟩),.pointer (some ⟨b,0,none⟩)] pG)):=by
 unfold execOp;simp only [ho,List.map_toArray,List.map_cons,List.map_nil,h0,h1]
 kernel_rfl
theorem aej {ev:Operand→Value}{o:Oper}(w:World)(ho:o.op= .makeSlice 64 (.const (.int .i64 2)) (.const (.int .i64 2)))(h:∀v,ev (.const v)=v):
  (execOp ev o).run Tryz.prog w= .ok (.value (.slice (some ⟨w.heap.size,0,none⟩) 2 2)) (w.alloc (.cells #[.slice none 0 0,.slice none 0 0] aj3)):=by
 unfold execOp;simp only [ho,h]
 kernel_rfl
theorem aei {ev:Operand→Value}{o:Oper}(w:World)(ho:o.op= .makeSlice 65 (.const (.int .i64 2)) (.const (.int .i64 2)))(h:∀v,ev (.const v)=v):
  (execOp ev o).run Tryz.prog w= .ok (.value (.slice (some ⟨w.heap.size,0,none⟩) 2 2)) (w.alloc (.cells #[.slice none 0 0,.slice none 0 0] aj4)):=by
 unfold execOp;simp only [ho,h]
 kernel_rfl
theorem aeh {ev:Operand→Value}{o:Oper}{x:Operand}{ts:Array TypeId}(w:World){a:Nat}(ho:o.op= .call {callee:= .value (.func 21),args:= #[x],argTypes:=ts})(h0:ev x= .pointer (some ⟨a,0,none⟩))(hf:ev (.func 21)= .func (.func 21) #[] #[]):
  (execOp ev o).run Tryz.prog w= .ok (.enter 21 #[.pointer (some ⟨a,0,none⟩)]) w:=by
 unfold execOp;simp only [ho,resolve,hf,List.map_toArray,List.map_cons,List.map_nil,h0]
 kernel_rfl
theorem aen {ev:Operand→Value}{o:Oper}{x:Operand}(w:World){a0 a1 a2 a3 a4 a5 a6 a7 a8 a9 a10:Value}(ho:o.op= .box fU x)(h0:ev x= .agg #[a0,a1,a2,a3,a4,a5,a6,a7,a8,a9,a10]):
  (execOp ev o).run Tryz.prog w= .ok (.value (.pointer (some ⟨w.heap.size,0,none⟩))) (w.alloc (.cells #[a0,a1,a2,a3,a4,a5,a6,a7,a8,a9,a10] fU)):=by
 unfold execOp;simp only [ho,h0]
 kernel_rfl
end Go.Proofs.YtodkhcbjpodgeaaGreat
