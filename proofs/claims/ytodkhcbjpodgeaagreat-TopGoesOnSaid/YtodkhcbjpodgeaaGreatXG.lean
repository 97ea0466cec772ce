/-
  What the law's call is handed: lists of steps and of acts.
-/
import Derived.Test.YtodkhcbjpodgeaaGreatWG
namespace Go.Proofs.YtodkhcbjpodgeaaGreat
open Go.ChangeShapes Go.WideShapes Go.ChangeAt Go.RowKit
set_option linter.unusedVariables false
section
theorem laidOut:laidOutB Tryz.prog=true:=by kernel_rfl
end
section
structure Elems (w:World) (size:Nat) (R:List Value→Prop) (A:Option Addr) (len cap:Nat) (xs:List (List Value)):Prop where
 count:xs.length=len
 room:len≤cap
 most:cap≤maxLen
 ax3:A=none→len=0
 each:∀x∈xs,x.length=size∧R x
 reads:Rd w w.heap.size A xs.flatten
theorem addr_add (b off j:Nat):(⟨b,off,none⟩:Addr).add j=⟨b,off+j,none⟩:=by unfold Addr.add;split<;>simp_all
theorem rd_of_cells {w:World} {a:Addr} {xs:List Value} (h:∀j,(hj:j<xs.length)→w.cell? (a.add j)=some xs[j]):Rd w w.heap.size (some a) xs:=by
 by_cases h0:xs.length=0
 ·exact .inl (List.length_eq_zero_iff.1 h0)
 ·obtain ⟨b,off,spot⟩:=a
  have hc0:=h 0 (by omega)
  have hspot:spot=none:=by simpa [Addr.add] using World.cell?_spot hc0
  subst hspot
  refine .inr ⟨b,off,rfl,?_,fun j hj=>by rw [←addr_add];exact h j hj⟩
  rw [addr_add] at hc0
  unfold World.cell? at hc0
  rcases Nat.lt_or_ge b w.heap.size with hlt|hge
  ·exact hlt
  ·simp [Array.getElem?_eq_none hge] at hc0
section
variable {H:Type} {enc:TypeId×Value→H} {P:Program} {w:World} {base:Nat} {held:Bool}
theorem open_elems {t e:TypeId} {r:Reach} {b0:Nat} {v:Value} {d:DataW H} {p:List MemPlace} (ht:P.underlying t=some (.slice e)) (size:Nat) (hC:P.cellsOf e=size) (hv:Value.okWide P w r b0 t v)
  (h:DataW.Trod enc P w base (fun _=>true) held t v d p) (R:List Value→Prop) (hR:∀(n:Nat) (cs:List Value) (y:DataW H×List MemPlace),cs.length=size→DataW.trod enc P w base (fun _=>true) held n e cs=some y→R cs):
  ∃A len cap xs,v= .slice A len cap∧Elems w size R A len cap xs:=by
 obtain ⟨A,len,cap,rfl⟩:=okWide_slice ht hv
 obtain ⟨fuel,hf⟩:=h
 simp only [Value.cells] at hf
 rcases Go.Deep.open_slice ht hf with ⟨h0,_⟩|⟨a,len',cap',m,n,D,Pl,hcs,_,hl,hm,hmm,_,hi⟩
 ·simp at h0
  obtain ⟨rfl,rfl,rfl⟩:=h0
  exact ⟨none,0,0,[],rfl,rfl,Nat.le_refl _,Nat.zero_le _,fun _=>rfl,fun x hx=>(by cases hx),.inl rfl⟩
 ·simp at hcs
  obtain ⟨rfl,rfl,rfl⟩:=hcs
  simp only [if_true] at hmm
  have hmm' :=hmm.symm
  subst hmm'
  rw [hC] at hi
  have hch:∀i:Nat,∃cs:List Value,i<cap→cs.length=size∧R cs∧∀j,j<size→w.cell? ((a.add (i*size)).add j)=cs[j]? :=by
   intro i
   by_cases hic:i<cap
   ·obtain ⟨cs',h1,h2⟩:=hi i hic
    obtain ⟨_,h3,h4⟩:=World.cells?_some h1
    exact ⟨cs',fun _=>⟨h3,hR n cs' _ h3 h2,h4⟩⟩
   ·exact ⟨[],fun h=>absurd h hic⟩
  let X:Nat→List Value:=fun i=>Classical.choose (hch i)
  have hX:∀i,i<cap→(X i).length=size∧R (X i)∧∀j,j<size→w.cell? ((a.add (i*size)).add j)=(X i)[j]? :=fun i hic=>Classical.choose_spec (hch i) hic
  have hsz:∀x∈(List.range len).map X,x.length=size∧R x:=by
   intro x hx
   obtain ⟨i,hi1,rfl⟩:=List.mem_map.1 hx
   have:=hX i (by have:=List.mem_range.1 hi1;omega)
   exact ⟨this.1,this.2.1⟩
  refine ⟨some a,len,cap,(List.range len).map X,rfl,by simp,hl,hm,(fun h=>by cases h),hsz,?_⟩
  apply rd_of_cells
  intro j hj
  rw [uV fun x hx=>(hsz x hx).1] at hj
  simp only [List.length_map,List.length_range] at hj
  rcases Nat.eq_zero_or_pos size with h0|h0
  ·subst h0;omega
  ·have hdiv:j / size<len:=Nat.div_lt_of_lt_mul (by rw [Nat.mul_comm];exact hj)
   have hmod:j % size<size:=Nat.mod_lt _ h0
   have hjj:j / size*size+j % size=j:=by rw [Nat.mul_comm];exact Nat.div_add_mod j size
   have hg:=uW (fun x hx=>(hsz x hx).1) (j / size) (j % size) (by simpa using hdiv) hmod
   rw [hjj] at hg
   have h1:=(hX (j / size) (by omega)).2.2 (j % size) hmod
   rw [Go.Deep.add_add,hjj] at h1
   rw [h1,←List.getElem?_eq_getElem,hg]
   simp
end
section
variable {w w' :World} {size:Nat} {R:List Value→Prop} {A:Option Addr} {len cap:Nat} {xs:List (List Value)}
end
section
variable {H:Type} {enc:TypeId×Value→H} {P:Program} {w:World} {base:Nat} {spare:Nat→Bool} {held:Bool}
theorem open_fields {e:TypeId} {fs:Array Field} {n:Nat} {cs:List Value} {y:DataW H×List MemPlace} (he:P.underlying e=some (.struct fs)) (hone:Go.Deep.oneCellFields P fs=true) (hl:cs.length=fs.size)
  (h:DataW.trod enc P w base spare held n e cs=some y):∃m,∀(i:Nat) (f:Field),fs[i]? =some f→∃c z,cs[i]? =some c∧DataW.trod enc P w base spare held m f.type [c]=some z:=by
 obtain ⟨ys,m,_,_,_,hyl,hg⟩:=DataW.trod_struct he h
 refine ⟨m,fun i f hf=> ?_⟩
 obtain ⟨h1,h2⟩:=Go.Deep.hone_of hone i f hf
 have hi:i<fs.size:=(Array.getElem?_eq_some_iff.1 hf).1
 have h3:=hg i f hf
 rw [h1,h2] at h3
 have h4:(cs.drop i).take 1=[cs[i]'(by omega)]:=by
  rw [List.drop_eq_getElem_cons (by omega)]
  rfl
 rw [h4] at h3
 have h5:ys[i]? =some (ys[i]'(by omega)):=List.getElem?_eq_getElem (by omega)
 exact ⟨_,_,List.getElem?_eq_getElem (by omega),h3.trans h5⟩
end
end
section
def JActOk (cs:List Value):Prop:=∃x:agq,cs=x.cells∧x.ok
set_option maxRecDepth 100000 in
theorem in_tst {H:Type} {enc:TypeId×Value→H} {W:World} {b0:Nat} {v:Value} {d:DataW H} {p:List MemPlace} {X:Prop} (hv:Value.okWide Tryz.prog W .any b0 22 v)
  (h:DataW.Trod enc Tryz.prog W 0 (fun _=>true) true 22 v d p) (_:X):In_tst W v:=by
 obtain ⟨A,len,cap,xs,rfl,he⟩:=open_elems Tryz.underlying22 3 (by kernel_rfl) hv h JActOk (fun n cs y hl ht=>by
  obtain ⟨m,hf⟩:=open_fields Tryz.underlying40 (by kernel_rfl) hl ht
  obtain ⟨c0,z0,g0,t0⟩:=hf 0 _ rfl
  obtain ⟨c1,z1,g1,t1⟩:=hf 1 _ rfl
  obtain ⟨c2,z2,g2,t2⟩:=hf 2 _ rfl
  obtain ⟨n0,e0,_,r0⟩:=DataW.trod_int Tryz.underlying3 t0
  obtain ⟨n1,e1,_,r1⟩:=DataW.trod_int Tryz.underlying3 t1
  obtain ⟨n2,e2,_,r2⟩:=DataW.trod_int Tryz.underlying3 t2
  simp at e0 e1 e2
  subst e0 e1 e2
  refine ⟨⟨n0,n1,n2⟩,?_,⟨bounds_i64 r0,bounds_i64 r1,bounds_i64 r2⟩⟩
  match cs,hl with
  |[x0,x1,x2],_=>
   simp at g0 g1 g2
   subst g0 g1 g2
   simp [agq.cells])
 have hch:∀xs:List (List Value),(∀x∈xs,JActOk x)→∃acts:List agq,xs=acts.map agq.cells∧∀a∈acts,a.ok:=by
  intro xs
  induction xs with
  |nil=>exact fun _=>⟨[],rfl,fun a ha=>by cases ha⟩
  |cons x xs ih=>
   intro hx
   obtain ⟨a,e1,h1⟩:=hx x (by simp)
   obtain ⟨ls,e2,h2⟩:=ih fun y hy=>hx y (by simp [hy])
   refine ⟨a :: ls,by rw [e1,e2];rfl,fun y hy=> ?_⟩
   rcases List.mem_cons.1 hy with rfl|hy
   ·exact h1
   ·exact h2 y hy
 obtain ⟨acts,rfl,hok⟩:=hch xs fun x hx=>(he.each x hx).2
 exact ⟨A,len,cap,acts,rfl,by simpa using he.count,Nat.le_trans he.room he.most,he.ax3,he.reads,hok⟩
end
end Go.Proofs.YtodkhcbjpodgeaaGreat
