/-
  What the law's call is handed: lists of steps and of acts.
-/
import Derived.Test.YtjnfmfmglehmbaaGreatW9V
namespace Go.Proofs.YtjnfmfmglehmbaaGreat
open Go.ChangeShapes Go.WideShapes Go.ChangeAt Go.RowKit
set_option linter.unusedVariables false
section
theorem laidOut:laidOutB Tryz.prog=true:=by kernel_rfl
end
section
structure Elems (w:World) (size:Nat) (R:List Value→Prop) (A:Option Addr) (len cap:Nat) (xs:List (List Value)):Prop where
 count:xs.length=len
 room:len≤cap
 most:cap≤maxLen
 anp:A=none→len=0
 each:∀x∈xs,x.length=size∧R x
 reads:Rd w w.heap.size A xs.flatten
theorem rd_of_cells {w:World} {a:Addr} {xs:List Value} (h:∀j,(hj:j<xs.length)→w.cell? (a.add j)=some xs[j]):Rd w w.heap.size (some a) xs:=by
 by_cases h0:xs.length=0
 ·exact .inl (List.length_eq_zero_iff.1 h0)
 ·obtain ⟨b,off,spot⟩:=a
  have hc0:=h 0 (by omega)
  have hspot:spot=none:=by simpa [Addr.add] using World.cell?_spot hc0
  subst hspot
  refine .inr ⟨b,off,rfl,?_,fun j hj=>by rw [←addr_add];exact h j hj⟩
  rw [addr_add] at hc0
  unfold World.cell? at hc0
  rcases Nat.lt_or_ge b w.heap.size with hlt|hge
  ·exact hlt
  ·simp [Array.getElem?_eq_none hge] at hc0
section
variable {H:Type} {enc:TypeId×Value→H} {P:Program} {w:World} {base:Nat} {held:Bool}
theorem open_elems {t e:TypeId} {r:Reach} {b0:Nat} {v:Value} {d:DataW H} {p:List MemPlace} (ht:P.underlying t=some (.slice e)) (size:Nat) (hC:P.cellsOf e=size) (hv:Value.okWide P w r b0 t v)
  (h:DataW.Trod enc P w base (fun _=>true) held t v d p) (R:List Value→Prop) (hR:∀(n:Nat) (cs:List Value) (y:DataW H×List MemPlace),cs.length=size→DataW.trod enc P w base (fun _=>true) held n e cs=some y→R cs):
  ∃A len cap xs,v= .slice A len cap∧Elems w size R A len cap xs:=by
 obtain ⟨A,len,cap,rfl⟩:=okWide_slice ht hv
 obtain ⟨fuel,hf⟩:=h
 simp only [Value.cells] at hf
 rcases Go.Deep.open_slice ht hf with ⟨h0,_⟩|⟨a,len',cap',m,n,D,Pl,hcs,_,hl,hm,hmm,_,hi⟩
 ·simp at h0
  obtain ⟨rfl,rfl,rfl⟩:=h0
  exact ⟨none,0,0,[],rfl,rfl,Nat.le_refl _,Nat.zero_le _,fun _=>rfl,fun x hx=>(by cases hx),.inl rfl⟩
 ·simp at hcs
  obtain ⟨rfl,rfl,rfl⟩:=hcs
  simp only [if_true] at hmm
  have hmm' :=hmm.symm
  subst hmm'
  rw [hC] at hi
  have hch:∀i:Nat,∃cs:List Value,i<cap→cs.length=size∧R cs∧∀j,j<size→w.cell? ((a.add (i*size)).add j)=cs[j]? :=by
   intro i
   by_cases hic:i<cap
   ·obtain ⟨cs',h1,h2⟩:=hi i hic
    obtain ⟨_,h3,h4⟩:=World.cells?_some h1
    exact ⟨cs',fun _=>⟨h3,hR n cs' _ h3 h2,h4⟩⟩
   ·exact ⟨[],fun h=>absurd h hic⟩
  let X:Nat→List Value:=fun i=>Classical.choose (hch i)
  have hX:∀i,i<cap→(X i).length=size∧R (X i)∧∀j,j<size→w.cell? ((a.add (i*size)).add j)=(X i)[j]? :=fun i hic=>Classical.choose_spec (hch i) hic
  have hsz:∀x∈(List.range len).map X,x.length=size∧R x:=by
   intro x hx
   obtain ⟨i,hi1,rfl⟩:=List.mem_map.1 hx
   have:=hX i (by have:=List.mem_range.1 hi1;omega)
   exact ⟨this.1,this.2.1⟩
  refine ⟨some a,len,cap,(List.range len).map X,rfl,by simp,hl,hm,(fun h=>by cases h),hsz,?_⟩
  apply rd_of_cells
  intro j hj
  rw [xY fun x hx=>(hsz x hx).1] at hj
  simp only [List.length_map,List.length_range] at hj
  rcases Nat.eq_zero_or_pos size with h0|h0
  ·subst h0;omega
  ·have hdiv:j / size<len:=Nat.div_lt_of_lt_mul (by rw [Nat.mul_comm];exact hj)
   have hmod:j % size<size:=Nat.mod_lt _ h0
   have hjj:j / size*size+j % size=j:=by rw [Nat.mul_comm];exact Nat.div_add_mod j size
   have hg:=xZ (fun x hx=>(hsz x hx).1) (j / size) (j % size) (by simpa using hdiv) hmod
   rw [hjj] at hg
   have h1:=(hX (j / size) (by omega)).2.2 (j % size) hmod
   rw [Go.Deep.add_add,hjj] at h1
   rw [h1,←List.getElem?_eq_getElem,hg]
   simp
end
section
variable {w w' :World} {size:Nat} {R:List Value→Prop} {A:Option Addr} {len cap:Nat} {xs:List (List Value)}
theorem Elems.at_ (h:Elems w size R A len cap xs) {i:Nat} (hi:i<len) (hs:0<size):
  ∃b off x,A=some ⟨b,off,none⟩∧b<w.heap.size∧xs[i]? =some x∧x.length=size∧R x∧∀j,j<size→w.cell? ⟨b,off+(i*size+j),none⟩=x[j]? :=by
 have hix:i<xs.length:=by rw [h.count];exact hi
 have hfl:=xY fun x hx=>(h.each x hx).1
 have hlt:∀j,j<size→i*size+j<xs.flatten.length:=by
  intro j hj
  rw [hfl]
  have:i*size+size≤xs.length*size:=by rw [←Nat.succ_mul];exact Nat.mul_le_mul_right _ hix
  omega
 obtain ⟨b,off,hA,hb,hc⟩:=h.reads.at_ (by have:=hlt 0 hs;omega)
 have hx:=h.each _ (List.getElem_mem hix)
 refine ⟨b,off,xs[i],hA,hb,List.getElem?_eq_getElem hix,hx.1,hx.2,fun j hj=> ?_⟩
 rw [hc _ (hlt j hj),←List.getElem?_eq_getElem,xZ (fun x hx=>(h.each x hx).1) i j hix hj]
end
section
variable {H:Type} {enc:TypeId×Value→H} {P:Program} {w:World} {base:Nat} {spare:Nat→Bool} {held:Bool}
theorem open_fields {e:TypeId} {fs:Array Field} {n:Nat} {cs:List Value} {y:DataW H×List MemPlace} (he:P.underlying e=some (.struct fs)) (hone:Go.Deep.oneCellFields P fs=true) (hl:cs.length=fs.size)
  (h:DataW.trod enc P w base spare held n e cs=some y):∃m,∀(i:Nat) (f:Field),fs[i]? =some f→∃c z,cs[i]? =some c∧DataW.trod enc P w base spare held m f.type [c]=some z:=by
 obtain ⟨ys,m,_,_,_,hyl,hg⟩:=DataW.trod_struct he h
 refine ⟨m,fun i f hf=> ?_⟩
 obtain ⟨h1,h2⟩:=Go.Deep.hone_of hone i f hf
 have hi:i<fs.size:=(Array.getElem?_eq_some_iff.1 hf).1
 have h3:=hg i f hf
 rw [h1,h2] at h3
 have h4:(cs.drop i).take 1=[cs[i]'(by omega)]:=by
  rw [List.drop_eq_getElem_cons (by omega)]
  rfl
 rw [h4] at h3
 have h5:ys[i]? =some (ys[i]'(by omega)):=List.getElem?_eq_getElem (by omega)
 exact ⟨_,_,List.getElem?_eq_getElem (by omega),h3.trans h5⟩
end
end
section
section
variable {H:Type} {enc:TypeId×Value→H} {P:Program} {w:World} {base:Nat} {spare:Nat→Bool} {held:Bool}
theorem open_at {e:TypeId} {fs:Array Field} {n:Nat} {cs:List Value} {y:DataW H×List MemPlace} (he:P.underlying e=some (.struct fs))
  (h:DataW.trod enc P w base spare held n e cs=some y):∃m,∀(i:Nat) (f:Field),fs[i]? =some f→∃z,DataW.trod enc P w base spare held m f.type ((cs.drop f.offset).take (P.cellsOf f.type))=some z:=by
 obtain ⟨ys,m,_,_,_,hyl,hg⟩:=DataW.trod_struct he h
 refine ⟨m,fun i f hf=> ?_⟩
 have hi:i<fs.size:=(Array.getElem?_eq_some_iff.1 hf).1
 exact ⟨_,(hg i f hf).trans (List.getElem?_eq_getElem (by omega))⟩
theorem open_elems1 {t e:TypeId} {n0:Nat} {c0:Value} {z0:DataW H×List MemPlace} (ht:P.underlying t=some (.slice e)) (size:Nat) (hC:P.cellsOf e=size)
  (hf:DataW.trod enc P w base (fun _=>true) held n0 t [c0]=some z0) (R:List Value→Prop) (hR:∀(n:Nat) (cs:List Value) (y:DataW H×List MemPlace),cs.length=size→DataW.trod enc P w base (fun _=>true) held n e cs=some y→R cs):
  ∃A len cap xs,c0= .slice A len cap∧Elems w size R A len cap xs:=by
 rcases Go.Deep.open_slice ht hf with ⟨h0,_⟩|⟨a,len',cap',m,n,D,Pl,hcs,_,hl,hm,hmm,_,hi⟩
 ·simp at h0
  subst h0
  exact ⟨none,0,0,[],rfl,rfl,Nat.le_refl _,Nat.zero_le _,fun _=>rfl,fun x hx=>(by cases hx),.inl rfl⟩
 ·simp at hcs
  subst hcs
  simp only [if_true] at hmm
  have hmm' :=hmm.symm
  subst hmm'
  rw [hC] at hi
  have hch:∀i:Nat,∃cs:List Value,i<cap'→cs.length=size∧R cs∧∀j,j<size→w.cell? ((a.add (i*size)).add j)=cs[j]? :=by
   intro i
   by_cases hic:i<cap'
   ·obtain ⟨cs',h1,h2⟩:=hi i hic
    obtain ⟨_,h3,h4⟩:=World.cells?_some h1
    exact ⟨cs',fun _=>⟨h3,hR n cs' _ h3 h2,h4⟩⟩
   ·exact ⟨[],fun h=>absurd h hic⟩
  let X:Nat→List Value:=fun i=>Classical.choose (hch i)
  have hX:∀i,i<cap'→(X i).length=size∧R (X i)∧∀j,j<size→w.cell? ((a.add (i*size)).add j)=(X i)[j]? :=fun i hic=>Classical.choose_spec (hch i) hic
  have hsz:∀x∈(List.range len').map X,x.length=size∧R x:=by
   intro x hx
   obtain ⟨i,hi1,rfl⟩:=List.mem_map.1 hx
   have:=hX i (by have:=List.mem_range.1 hi1;omega)
   exact ⟨this.1,this.2.1⟩
  refine ⟨some a,len',cap',(List.range len').map X,rfl,by simp,hl,hm,(fun h=>by cases h),hsz,?_⟩
  apply rd_of_cells
  intro j hj
  rw [xY fun x hx=>(hsz x hx).1] at hj
  simp only [List.length_map,List.length_range] at hj
  rcases Nat.eq_zero_or_pos size with h0|h0
  ·subst h0;omega
  ·have hdiv:j / size<len' :=Nat.div_lt_of_lt_mul (by rw [Nat.mul_comm];exact hj)
   have hmod:j % size<size:=Nat.mod_lt _ h0
   have hjj:j / size*size+j % size=j:=by rw [Nat.mul_comm];exact Nat.div_add_mod j size
   have hg:=xZ (fun x hx=>(hsz x hx).1) (j / size) (j % size) (by simpa using hdiv) hmod
   rw [hjj] at hg
   have h1:=(hX (j / size) (by omega)).2.2 (j % size) hmod
   rw [Go.Deep.add_add,hjj] at h1
   rw [h1,←List.getElem?_eq_getElem,hg]
   simp
end
section
variable {H:Type} {enc:TypeId×Value→H} {W:World} {n:Nat} {y:DataW H×List MemPlace}
theorem list10 {α:Type} (l:List α) (h:l.length=10):∃a0 a1 a2 a3 a4 a5 a6 a7 a8 a9,l=[a0,a1,a2,a3,a4,a5,a6,a7,a8,a9]:=by
 match l,h with
 |[a0,a1,a2,a3,a4,a5,a6,a7,a8,a9],_=>exact ⟨a0,a1,a2,a3,a4,a5,a6,a7,a8,a9,rfl⟩
theorem list12 {α:Type} (l:List α) (h:l.length=12):∃a0 a1 a2 a3 a4 a5 a6 a7 a8 a9 a10 a11,l=[a0,a1,a2,a3,a4,a5,a6,a7,a8,a9,a10,a11]:=by
 match l,h with
 |[a0,a1,a2,a3,a4,a5,a6,a7,a8,a9,a10,a11],_=>exact ⟨a0,a1,a2,a3,a4,a5,a6,a7,a8,a9,a10,a11,rfl⟩
set_option maxRecDepth 100000 in
theorem open_ent (cs:List Value) (hl:cs.length=9) (h:DataW.trod enc Tryz.prog W 0 (fun _=>true) true n dR cs=some y):∃e:En,e.ok∧cs=[.int .i64 e.kind,.int .i64 e.tick,.int .i64 e.aS,.int .i64 e.cell,.int .i64 e.other,.int .i64 e.epoch,.int .i64 e.from_,.int .i64 e.bA,.int .i64 e.n]:=by
 obtain ⟨m,hg⟩:=open_fields Tryz.underlying49 (by kernel_rfl) hl h
 obtain ⟨x0,z0,g0,t0⟩:=hg 0 _ rfl
 obtain ⟨n0,e0,_,r0⟩:=DataW.trod_int Tryz.underlying3 t0
 have q0:=bounds_i64 r0
 obtain ⟨x1,z1,g1,t1⟩:=hg 1 _ rfl
 obtain ⟨n1,e1,_,r1⟩:=DataW.trod_int Tryz.underlying3 t1
 have q1:=bounds_i64 r1
 obtain ⟨x2,z2,g2,t2⟩:=hg 2 _ rfl
 obtain ⟨n2,e2,_,r2⟩:=DataW.trod_int Tryz.underlying3 t2
 have q2:=bounds_i64 r2
 obtain ⟨x3,z3,g3,t3⟩:=hg 3 _ rfl
 obtain ⟨n3,e3,_,r3⟩:=DataW.trod_int Tryz.underlying3 t3
 have q3:=bounds_i64 r3
 obtain ⟨x4,z4,g4,t4⟩:=hg 4 _ rfl
 obtain ⟨n4,e4,_,r4⟩:=DataW.trod_int Tryz.underlying3 t4
 have q4:=bounds_i64 r4
 obtain ⟨x5,z5,g5,t5⟩:=hg 5 _ rfl
 obtain ⟨n5,e5,_,r5⟩:=DataW.trod_int Tryz.underlying3 t5
 have q5:=bounds_i64 r5
 obtain ⟨x6,z6,g6,t6⟩:=hg 6 _ rfl
 obtain ⟨n6,e6,_,r6⟩:=DataW.trod_int Tryz.underlying3 t6
 have q6:=bounds_i64 r6
 obtain ⟨x7,z7,g7,t7⟩:=hg 7 _ rfl
 obtain ⟨n7,e7,_,r7⟩:=DataW.trod_int Tryz.underlying3 t7
 have q7:=bounds_i64 r7
 obtain ⟨x8,z8,g8,t8⟩:=hg 8 _ rfl
 obtain ⟨n8,e8,_,r8⟩:=DataW.trod_int Tryz.underlying3 t8
 have q8:=bounds_i64 r8
 simp at e0 e1 e2 e3 e4 e5 e6 e7 e8
 subst e0 e1 e2 e3 e4 e5 e6 e7 e8
 refine ⟨⟨n0,n1,n2,n3,n4,n5,n6,n7,n8⟩,?_,?_⟩
 ·intro x hx
  simp only [En.l,List.mem_cons,List.not_mem_nil,or_false] at hx
  rcases hx with rfl|rfl|rfl|rfl|rfl|rfl|rfl|rfl|rfl
  all_goals assumption
 ·match cs,hl with
  |[y0,y1,y2,y3,y4,y5,y6,y7,y8],_=>
   simp at g0 g1 g2 g3 g4 g5 g6 g7 g8
   subst g0 g1 g2 g3 g4 g5 g6 g7 g8
   rfl
end
end
section
section
variable {H:Type} {enc:TypeId×Value→H} {W:World} {n:Nat} {y:DataW H×List MemPlace}
def LgOk (cs:List Value):Prop:=∃x:Lg,cs=x.cells∧x.e.ok
set_option maxRecDepth 100000 in
theorem open_lg (cs:List Value) (hl:cs.length=10) (h:DataW.trod enc Tryz.prog W 0 (fun _=>true) true n TLg cs=some y):LgOk cs:=by
 obtain ⟨m,hg⟩:=open_at Tryz.underlying96 h
 obtain ⟨c0,c1,c2,c3,c4,c5,c6,c7,c8,c9,rfl⟩:=list10 cs hl
 obtain ⟨z0,t0⟩:=hg 0 _ rfl
 obtain ⟨z1,t1⟩:=hg 1 _ rfl
 change DataW.trod enc Tryz.prog W 0 (fun _=>true) true m 3 ((([c0,c1,c2,c3,c4,c5,c6,c7,c8,c9]:List Value).drop 0).take ((Tryz.prog).cellsOf 3))=some z0 at t0
 change DataW.trod enc Tryz.prog W 0 (fun _=>true) true m dR ((([c0,c1,c2,c3,c4,c5,c6,c7,c8,c9]:List Value).drop 1).take ((Tryz.prog).cellsOf dR))=some z1 at t1
 rw [show (Tryz.prog).cellsOf 3=1 from by kernel_rfl] at t0
 rw [show (Tryz.prog).cellsOf dR=9 from by kernel_rfl] at t1
 change DataW.trod enc Tryz.prog W 0 (fun _=>true) true m 3 [c0]=some z0 at t0
 change DataW.trod enc Tryz.prog W 0 (fun _=>true) true m dR [c1,c2,c3,c4,c5,c6,c7,c8,c9]=some z1 at t1
 obtain ⟨n0,e0,_,r0⟩:=DataW.trod_int Tryz.underlying3 t0
 obtain ⟨e,he,e1⟩:=open_ent _ rfl t1
 simp at e0
 subst e0
 refine ⟨⟨n0,e⟩,?_,he⟩
 rw [e1]
 rfl
set_option maxRecDepth 100000 in
theorem open_lgs {c:Value} (h:DataW.trod enc Tryz.prog W 0 (fun _=>true) true n 34 [c]=some y):∃(es:List Lg) (A:Option Addr) (cap:Nat),c= .slice A es.length cap∧Ent W (fun i=>i<W.heap.size) (.slice A es.length cap) es∧∀x∈es,x.e.ok:=by
 obtain ⟨A,len,cap,xs,rfl,he⟩:=open_elems1 Tryz.underlying34 10 (by kernel_rfl) h LgOk (fun n cs y hl ht=>open_lg cs hl ht)
 have hch:∀xs:List (List Value),(∀x∈xs,LgOk x)→∃es:List Lg,xs=es.map Lg.cells∧∀a∈es,a.e.ok:=by
  intro xs
  induction xs with
  |nil=>exact fun _=>⟨[],rfl,fun a ha=>by cases ha⟩
  |cons x xs ih=>
   intro hx
   obtain ⟨a,e1,h1⟩:=hx x (by simp)
   obtain ⟨ls,e2,h2⟩:=ih fun y hy=>hx y (by simp [hy])
   refine ⟨a :: ls,by rw [e1,e2];rfl,fun y hy=> ?_⟩
   rcases List.mem_cons.1 hy with rfl|hy
   ·exact h1
   ·exact h2 y hy
 obtain ⟨es,rfl,hok⟩:=hch xs fun x hx=>(he.each x hx).2
 have hl:es.length=len:=by simpa using he.count
 subst hl
 have hrd:=he.reads
 have hfl:(es.map Lg.cells).flatten=dD es:=by unfold dD;rw [List.flatMap_def]
 rw [hfl] at hrd
 refine ⟨es,A,cap,rfl,⟨A,cap,rfl,he.anp,he.room,he.most,?_⟩,hok⟩
 rcases hrd with hrd|⟨b,off,e1,e2,e3⟩
 ·refine .inl ?_
  cases es with
  |nil=>rfl
  |cons x l=>simp [dD,Lg.cells] at hrd
 ·exact .inr ⟨b,off,e1,e2,e2,e3⟩
def MsOk (W:World) (cs:List Value):Prop:=∃(m:Ms) (A:Option Addr) (c:Nat),cs=m.cells (.slice A m.es.length c)∧Ent W (fun i=>i<W.heap.size) (.slice A m.es.length c) m.es∧∀x∈m.es,x.e.ok
set_option maxRecDepth 100000 in
theorem open_ms (cs:List Value) (hl:cs.length=9) (h:DataW.trod enc Tryz.prog W 0 (fun _=>true) true n TMs cs=some y):MsOk W cs:=by
 obtain ⟨m,hg⟩:=open_fields Tryz.underlying37 (by kernel_rfl) hl h
 obtain ⟨x0,z0,g0,t0⟩:=hg 0 _ rfl
 obtain ⟨n0,e0,_,r0⟩:=DataW.trod_int Tryz.underlying3 t0
 obtain ⟨x1,z1,g1,t1⟩:=hg 1 _ rfl
 obtain ⟨n1,e1,_,r1⟩:=DataW.trod_int Tryz.underlying3 t1
 obtain ⟨x2,z2,g2,t2⟩:=hg 2 _ rfl
 obtain ⟨n2,e2,_,r2⟩:=DataW.trod_int Tryz.underlying3 t2
 obtain ⟨x3,z3,g3,t3⟩:=hg 3 _ rfl
 obtain ⟨n3,e3,_,r3⟩:=DataW.trod_int Tryz.underlying3 t3
 obtain ⟨x4,z4,g4,t4⟩:=hg 4 _ rfl
 obtain ⟨n4,e4,_,r4⟩:=DataW.trod_int Tryz.underlying3 t4
 obtain ⟨x5,z5,g5,t5⟩:=hg 5 _ rfl
 obtain ⟨n5,e5,_,r5⟩:=DataW.trod_int Tryz.underlying3 t5
 obtain ⟨x6,z6,g6,t6⟩:=hg 6 _ rfl
 obtain ⟨n6,e6,_,r6⟩:=DataW.trod_int Tryz.underlying3 t6
 obtain ⟨x7,z7,g7,t7⟩:=hg 7 _ rfl
 obtain ⟨bb,e7,-⟩:=DataW.trod_bool Tryz.underlying4 t7
 obtain ⟨x8,z8,g8,t8⟩:=hg 8 _ rfl
 obtain ⟨es,A,cap,e8,h8,h9⟩:=open_lgs t8
 simp at e0 e1 e2 e3 e4 e5 e6 e7
 subst e0 e1 e2 e3 e4 e5 e6 e7 e8
 refine ⟨⟨n0,n1,n2,n3,n4,n5,n6,bb,es⟩,A,cap,?_,h8,h9⟩
 match cs,hl with
 |[y0,y1,y2,y3,y4,y5,y6,y7,y8],_=>
  simp at g0 g1 g2 g3 g4 g5 g6 g7 g8
  subst g0 g1 g2 g3 g4 g5 g6 g7 g8
  rfl
def StOk (W:World) (cs:List Value):Prop:=∃x:StR,cs=x.cells∧SIn W x.1 x.2.1 x.2.2
set_option maxRecDepth 100000 in
theorem open_st (cs:List Value) (hl:cs.length=12) (h:DataW.trod enc Tryz.prog W 0 (fun _=>true) true n wK cs=some y):StOk W cs:=by
 obtain ⟨m,hg⟩:=open_at Tryz.underlying39 h
 obtain ⟨c0,c1,c2,c3,c4,c5,c6,c7,c8,c9,c10,c11,rfl⟩:=list12 cs hl
 obtain ⟨z0,t0⟩:=hg 0 _ rfl
 obtain ⟨z1,t1⟩:=hg 1 _ rfl
 obtain ⟨z2,t2⟩:=hg 2 _ rfl
 obtain ⟨z3,t3⟩:=hg 3 _ rfl
 change DataW.trod enc Tryz.prog W 0 (fun _=>true) true m 3 ((([c0,c1,c2,c3,c4,c5,c6,c7,c8,c9,c10,c11]:List Value).drop 0).take ((Tryz.prog).cellsOf 3))=some z0 at t0
 change DataW.trod enc Tryz.prog W 0 (fun _=>true) true m 3 ((([c0,c1,c2,c3,c4,c5,c6,c7,c8,c9,c10,c11]:List Value).drop 1).take ((Tryz.prog).cellsOf 3))=some z1 at t1
 change DataW.trod enc Tryz.prog W 0 (fun _=>true) true m 3 ((([c0,c1,c2,c3,c4,c5,c6,c7,c8,c9,c10,c11]:List Value).drop 2).take ((Tryz.prog).cellsOf 3))=some z2 at t2
 change DataW.trod enc Tryz.prog W 0 (fun _=>true) true m TMs ((([c0,c1,c2,c3,c4,c5,c6,c7,c8,c9,c10,c11]:List Value).drop 3).take ((Tryz.prog).cellsOf TMs))=some z3 at t3
 rw [show (Tryz.prog).cellsOf 3=1 from by kernel_rfl] at t0 t1 t2
 rw [show (Tryz.prog).cellsOf TMs=9 from by kernel_rfl] at t3
 change DataW.trod enc Tryz.prog W 0 (fun _=>true) true m 3 [c0]=some z0 at t0
 change DataW.trod enc Tryz.prog W 0 (fun _=>true) true m 3 [c1]=some z1 at t1
 change DataW.trod enc Tryz.prog W 0 (fun _=>true) true m 3 [c2]=some z2 at t2
 change DataW.trod enc Tryz.prog W 0 (fun _=>true) true m TMs [c3,c4,c5,c6,c7,c8,c9,c10,c11]=some z3 at t3
 obtain ⟨n0,e0,_,r0⟩:=DataW.trod_int Tryz.underlying3 t0
 obtain ⟨n1,e1,_,r1⟩:=DataW.trod_int Tryz.underlying3 t1
 obtain ⟨n2,e2,_,r2⟩:=DataW.trod_int Tryz.underlying3 t2
 obtain ⟨mm,A,c,e3,h3,h4⟩:=open_ms _ rfl t3
 simp at e0 e1 e2
 subst e0 e1 e2
 refine ⟨(⟨n0,n1,n2,mm⟩,A,c),?_,⟨h3,h4,bounds_i64 r1,bounds_i64 r2⟩⟩
 rw [e3]
 rfl
end
set_option maxRecDepth 100000 in
theorem in_st9 {H:Type} {enc:TypeId×Value→H} {W:World} {b0:Nat} {v:Value} {d:DataW H} {p:List MemPlace} {X:Prop} (hv:Value.okWide Tryz.prog W .any b0 22 v)
  (h:DataW.Trod enc Tryz.prog W 0 (fun _=>true) true 22 v d p) (_:X):In_st9 W v:=by
 obtain ⟨A,len,cap,xs,rfl,he⟩:=open_elems Tryz.underlying22 12 (by kernel_rfl) hv h (StOk W) (fun n cs y hl ht=>open_st cs hl ht)
 have hch:∀xs:List (List Value),(∀x∈xs,StOk W x)→∃l:List StR,xs=l.map StR.cells∧∀a∈l,SIn W a.1 a.2.1 a.2.2:=by
  intro xs
  induction xs with
  |nil=>exact fun _=>⟨[],rfl,fun a ha=>by cases ha⟩
  |cons x xs ih=>
   intro hx
   obtain ⟨a,e1,h1⟩:=hx x (by simp)
   obtain ⟨ls,e2,h2⟩:=ih fun y hy=>hx y (by simp [hy])
   refine ⟨a :: ls,by rw [e1,e2];rfl,fun y hy=> ?_⟩
   rcases List.mem_cons.1 hy with rfl|hy
   ·exact h1
   ·exact h2 y hy
 obtain ⟨l,rfl,hok⟩:=hch xs fun x hx=>(he.each x hx).2
 have hrd:=he.reads
 have hfl:(l.map StR.cells).flatten=l.flatMap StR.cells:=by rw [List.flatMap_def]
 rw [hfl] at hrd
 exact ⟨A,len,cap,l,rfl,⟨by simpa using he.count,Nat.le_trans he.room he.most,he.anp,hrd,hok⟩,he.room,he.most⟩
section
variable {w w' :World} {A:Option Addr} {len cap:Nat} {l:List StR}
end
end
end Go.Proofs.YtjnfmfmglehmbaaGreat
