/-
  The reference's replica: which messages are proper.
-/
import Derived.Test.YtjnfmfmglehmbaaGreatQ35
namespace Go.Proofs.YtjnfmfmglehmbaaGreat
open Go.ChangeShapes Go.WideShapes Go.ChangeAt Go.RowKit
set_option linter.unusedVariables false
set_option maxRecDepth 100000
set_option maxHeartbeats 4000000
section
variable {w w' :World}{F G:Nat→Prop}{p:Nat}{r:Rs}{n:Nat}
set_option maxHeartbeats 16000000 in
theorem xu (h:bR w F p r n)(m:Ms)(v:Value)(hN:¬((m.to_=r.id∧0≤m.from_∧m.from_<r.n∧m.from_≠r.id∧1≤m.kind∧m.kind≤4∧1≤m.term∧m.term≤1073741824∧0≤m.index∧m.index≤4096∧0≤m.prev∧m.prev≤m.term∧0≤m.commit∧m.commit≤4096)∧m.kind=3))(h14:m.to_=r.id)(h18:0≤m.from_)(h27:m.from_<r.n)(h36:m.from_≠r.id)(h41:1≤m.kind)(h46:m.kind≤4)(h51:1≤m.term)(h56:m.term≤1073741824)(h61:0≤m.index)(hR:¬(m.index≤4096∧0≤m.prev)):Calls Tryz.prog 105 #[.pointer (some ⟨p,0,none⟩),m.v v] w fun e w' =>e= .returned (.bool (r.proper m))∧Fr No w w' :=by
 have hP:∀W,Fr No w W→W.cell? ⟨p,1,none⟩=some (.int .i64 (r.id:Int))∧W.cell? ⟨p,2,none⟩=some (.int .i64 (r.n:Int)):=fun W hW=>(let ⟨_,_,_,_,_,_,_,_,h1,_⟩:=h.ak hW;⟨h1.cell 1,h1.cell 2⟩);obtain ⟨D,hd⟩:∃D,D=decide (m.to_=r.id∧0≤m.from_∧m.from_<r.n∧m.from_≠r.id∧1≤m.kind∧m.kind≤4∧1≤m.term∧m.term≤1073741824∧0≤m.index∧m.index≤4096∧0≤m.prev∧m.prev≤m.term∧0≤m.commit∧m.commit≤4096):=⟨_,rfl⟩;have hY:r.proper m=D:=by
  rw [Bool.eq_iff_iff,Rs.cB,hd,decide_eq_true_eq]
  constructor
  ·intro q
   exact ⟨q.to_,q.f0,q.f1,q.ne,by have:=q.k;omega,by have:=q.k;omega,q.t0,q.t1,q.i0,q.i1,q.p0,q.p1,q.c0,q.c1⟩
  ·intro q
   have h3:¬m.kind=3:=fun hh=>hN ⟨q,hh⟩;obtain ⟨a1,a2,a3,a4,a5,a6,a7,a8,a9,b1,b2,b3,b4,b5⟩:=q;exact ⟨a1,a4,a2,a3,a7,a8,a9,b1,b2,b3,b4,b5,by omega,fun hh=>absurd hh h3⟩
 have hK:D=true→¬m.kind=3:=fun q hh=>by rw [hd] at q;exact hN ⟨of_decide_eq_true q,hh⟩
 generalize r.proper m=Y at*;clear hN;obtain ⟨kd,mf,mto,mt,ix,pv,cm,ok,es⟩:=m;simp only at*;generalize (r.id:Int)=id at*;generalize (r.n:Int)=nn at*;obtain ⟨W0,hW0⟩:∃W0,W0=w.alloc (.cells (cZ kd mf mto mt ix pv cm ok v) TMs):=⟨_,rfl⟩;have hf0:Fr No w W0:=by rw [hW0];exact aj _ _
 obtain ⟨g,hg⟩:∃g,g=w.heap.size:=⟨_,rfl⟩;have hb:Blk W0 g TMs (cZ kd mf mto mt ix pv cm ok v):=by rw [hW0,hg];exact Blk.new _ _ _
 obtain ⟨p1,p2⟩:=hP _ hf0;obtain ⟨c0,c1,c2,c3,c4,c5,c6,c7,c8⟩:=aL (m:=⟨kd,mf,mto,mt,ix,pv,cm,ok,es⟩) hb;simp only at c0 c1 c2 c3 c4 c5 c6 c7 c8;have Q14:=O h14;clear h14;have q18:=h18;clear h18;have q27:=h27;clear h27;have q36:=h36;clear h36;have q41:=h41;clear h41;have q46:=h46;clear h46;have q51:=h51;clear h51;have q56:=h56;clear h56;have q61:=h61;clear h61;clear h hP hb;obtain ⟨HF0,HW0,HG,HD,HY,HK,HR⟩:=nC hf0 hW0 hg hd hY hK hR;clear hf0 hW0 hg hd hY hK hR
 go_in
 go_wp2_with fail
 rw [←HG.out,←HW0.out];simp only [List.append_eq,List.cons_append,List.nil_append]
 go_upto_region 1 with fail
 go_cut [5] (fun x wx=>x= .bool D∧wx=W0.drew)
 case first=>
  refine wp_region_held_drew (S:=fun V=>V.cell? ⟨g,0,none⟩=some (.int .i64 kd)∧V.cell? ⟨g,1,none⟩=some (.int .i64 mf)∧V.cell? ⟨g,2,none⟩=some (.int .i64 mto)∧V.cell? ⟨g,3,none⟩=some (.int .i64 mt)∧V.cell? ⟨g,4,none⟩=some (.int .i64 ix)∧V.cell? ⟨g,5,none⟩=some (.int .i64 pv)∧V.cell? ⟨g,6,none⟩=some (.int .i64 cm)∧V.cell? ⟨p,1,none⟩=some (.int .i64 id)∧V.cell? ⟨p,2,none⟩=some (.int .i64 nn)) (by kernel_rfl) ⟨c0,c1,c2,c3,c4,c5,c6,p1,p2⟩ (fun hHeld=> ?_);refine I 0 rfl ?_;simp only [Act.put,J];refine I 1 rfl ?_;simp only [Act.put,J];refine I 2 rfl ?_;simp only [Act.put,J];refine I 3 rfl ?_;simp only [Act.put,J];refine I 4 rfl ?_;simp only [Act.put,J];refine I 5 rfl ?_;simp only [Act.put,J];have t14:(mto == id)=true:=by simpa using Q14.out
  refine I 6 rfl ?_;simp only [Act.put,J];refine I 7 rfl ?_;simp only [Act.put,J];refine I 8 rfl ?_;simp only [Act.put,J];refine I 9 rfl ?_;simp only [Act.put,J];have t18:decide (0≤mf)=true:=decide_eq_true q18;refine I 10 rfl ?_;simp only [Act.put,J];refine I 11 rfl ?_;simp only [Act.put,J];refine I 12 rfl ?_;simp only [Act.put,J];refine I 13 rfl ?_;simp only [Act.put,J];refine I 14 rfl ?_;simp only [Act.put,J];refine I 15 rfl ?_;simp only [Act.put,J];refine I 16 rfl ?_;simp only [Act.put,J];refine I 17 rfl ?_;simp only [Act.put,J];refine I 18 rfl ?_;simp only [Act.put,J];have t27:decide (mf<nn)=true:=decide_eq_true q27;refine I 19 rfl ?_;simp only [Act.put,J];refine I 20 rfl ?_;simp only [Act.put,J];refine I 21 rfl ?_;simp only [Act.put,J];refine I 22 rfl ?_;simp only [Act.put,J];refine I 23 rfl ?_;simp only [Act.put,J];refine I 24 rfl ?_;simp only [Act.put,J];refine I 25 rfl ?_;simp only [Act.put,J];refine I 26 rfl ?_;simp only [Act.put,J];refine I 27 rfl ?_;simp only [Act.put,J];have t36:(mf != id)=true:=by simpa using q36
  refine I 28 rfl ?_;simp only [Act.put,J];refine I 29 rfl ?_;simp only [Act.put,J];refine I 30 rfl ?_;simp only [Act.put,J];refine I 31 rfl ?_;simp only [Act.put,J];refine I 32 rfl ?_;simp only [Act.put,J];have t41:decide (1≤kd)=true:=decide_eq_true q41;refine I 33 rfl ?_;simp only [Act.put,J];refine I 34 rfl ?_;simp only [Act.put,J];refine I 35 rfl ?_;simp only [Act.put,J];refine I 36 rfl ?_;simp only [Act.put,J];refine I 37 rfl ?_;simp only [Act.put,J];have t46:decide (kd≤4)=true:=decide_eq_true q46;refine I 38 rfl ?_;simp only [Act.put,J];refine I 39 rfl ?_;simp only [Act.put,J];refine I 40 rfl ?_;simp only [Act.put,J];refine I 41 rfl ?_;simp only [Act.put,J];refine I 42 rfl ?_;simp only [Act.put,J];have t51:decide (1≤mt)=true:=decide_eq_true q51;refine I 43 rfl ?_;simp only [Act.put,J];refine I 44 rfl ?_;simp only [Act.put,J];refine I 45 rfl ?_;simp only [Act.put,J];refine I 46 rfl ?_;simp only [Act.put,J];refine I 47 rfl ?_;simp only [Act.put,J];have t56:decide (mt≤1073741824)=true:=decide_eq_true q56;refine I 48 rfl ?_;simp only [Act.put,J];refine I 49 rfl ?_;simp only [Act.put,J];refine I 50 rfl ?_;simp only [Act.put,J];refine I 51 rfl ?_;simp only [Act.put,J];refine I 52 rfl ?_;simp only [Act.put,J];have t61:decide (0≤ix)=true:=decide_eq_true q61;refine I 53 rfl ?_;simp only [Act.put,J];refine I 54 rfl ?_;simp only [Act.put,J];refine I 55 rfl ?_;simp only [Act.put,J];refine I 56 rfl ?_
  simp only [Act.put,J];refine I 57 rfl ?_;simp only [Act.put,J]
  by_cases q66:ix≤4096
  ·have t66:decide (ix≤4096)=true:=decide_eq_true q66
   refine I 58 rfl ?_;simp only [Act.put,J];refine I 59 rfl ?_;simp only [Act.put,J];refine I 60 rfl ?_;simp only [Act.put,J];refine I 61 rfl ?_;simp only [Act.put,J];refine I 62 rfl ?_;simp only [Act.put,J]
   by_cases q71:0≤pv
   ·exact (HR.out ⟨q66,q71⟩).elim
   ·have t71:decide (0≤pv)=false:=decide_eq_false q71
    refine I 63 rfl ?_;simp only [Act.put,J];refine I 64 rfl ?_;simp only [Act.put,J];refine I 65 rfl ?_;simp only [Act.put,J];refine bI 66 rfl rfl ?_;simp only [Act.put,J];refine bI 68 rfl rfl ?_;simp only [Act.put,J];refine tkN 70 rfl ?_;simp only [Act.put,J];refine I 71 rfl ?_;simp only [Act.put,J];refine I 72 rfl ?_;simp only [Act.put,J];refine bI 73 rfl rfl ?_;simp only [Act.put,J];refine tkN 75 rfl ?_;simp only [Act.put,J];refine I 76 rfl ?_;simp only [Act.put,J];refine I 77 rfl ?_;simp only [Act.put,J];refine bI 78 rfl rfl ?_;simp only [Act.put,J];refine tkN 80 rfl ?_;simp only [Act.put,J];refine I 81 rfl ?_;simp only [Act.put,J];refine I 82 rfl ?_;simp only [Act.put,J];refine wpAnyH_done (by kernel_rfl) ?_ _
    try have q14:=Q14.out
    have hD:D=false:=by rw [HD.out];exact dff
    try clear t14 q14
    go_wp2_with fail
    go_meet
    exact ⟨by rw [hD],rfl⟩
  ·have t66:decide (ix≤4096)=false:=decide_eq_false q66
   refine I 58 rfl ?_;simp only [Act.put,J];refine I 59 rfl ?_;simp only [Act.put,J];refine I 60 rfl ?_;simp only [Act.put,J];refine bI 61 rfl rfl ?_;simp only [Act.put,J];refine tkN 63 rfl ?_;simp only [Act.put,J];refine I 64 rfl ?_;simp only [Act.put,J];refine I 65 rfl ?_;simp only [Act.put,J];refine bI 66 rfl rfl ?_;simp only [Act.put,J];refine bI 68 rfl rfl ?_;simp only [Act.put,J];refine tkN 70 rfl ?_;simp only [Act.put,J];refine I 71 rfl ?_;simp only [Act.put,J];refine I 72 rfl ?_;simp only [Act.put,J];refine bI 73 rfl rfl ?_;simp only [Act.put,J];refine tkN 75 rfl ?_;simp only [Act.put,J];refine I 76 rfl ?_;simp only [Act.put,J];refine I 77 rfl ?_;simp only [Act.put,J];refine bI 78 rfl rfl ?_;simp only [Act.put,J];refine tkN 80 rfl ?_;simp only [Act.put,J];refine I 81 rfl ?_;simp only [Act.put,J];refine I 82 rfl ?_;simp only [Act.put,J];refine wpAnyH_done (by kernel_rfl) ?_ _
   try have q14:=Q14.out
   have hD:D=false:=by rw [HD.out];exact dff
   try clear t14 q14
   go_wp2_with fail
   go_meet
   exact ⟨by rw [hD],rfl⟩
 case rest=>
  obtain ⟨rfl,rfl⟩:=hcut;obtain ⟨d0⟩:Nonempty (W0.drew.cell? ⟨g,0,none⟩=some (.int .i64 kd)):=⟨c0⟩;clear c0 c1 c2 c3 c4 c5 c6 c7 c8 p1 p2
  try clear q14
  cases D
  ·go_wp2_with fail
   go_ret
   exact ⟨au HY.out.symm,HF0.out.drew⟩
  ·have hk3:=HK.out rfl
   have u3:(kd != 3)=true:=by simpa using hk3
   clear hk3
   go_wp2_with fail
   go_ret
   exact ⟨au HY.out.symm,HF0.out.drew⟩
end
end Go.Proofs.YtjnfmfmglehmbaaGreat
