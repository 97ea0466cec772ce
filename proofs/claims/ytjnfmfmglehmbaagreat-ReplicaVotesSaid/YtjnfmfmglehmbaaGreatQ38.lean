/-
  The reference's replica: which messages are proper.
-/
import Derived.Test.YtjnfmfmglehmbaaGreatQ35
namespace Go.Proofs.YtjnfmfmglehmbaaGreat
open Go.ChangeShapes Go.WideShapes Go.ChangeAt Go.RowKit
set_option linter.unusedVariables false
set_option maxRecDepth 100000
set_option maxHeartbeats 4000000
theorem I1 {P:Program}{ops:Array Oper}{Q:Exit→Act→World→Prop}{md:Region.Mode}{S:World→Prop}(i:Nat){oi:Oper}{v:Value}{fuel:Nat}{listed:Array Bool}{a a':Act}{w:World}(hi:ops[i]? =some oi)
  (h:wpAnyH P md ops Q S fuel (listed.setIfInBounds i true) a' w)
  (hy:∀w,S w→(execOp a.eval oi).run P w= .ok (.value v) w:=by (intro w hSw;(try dsimp only at hSw);go_simp)<;>with_reducible rfl)
  (ha:a.put oi.dst v=a':=by simp only [Act.put,za,zb,zc,zd,ze,zf];rfl)
  (hs:Region.noSelect ops=true:=by kernel_rfl)(hf:Region.free md ops listed i=true:=by kernel_rfl)(hr:(Region.ready md ops listed).contains i=true:=by kernel_rfl)
  (hQ:∀c a w,Q (.panic c) (a.put oi.dst v) w→Q (.panic c) a w:=by exact fun _ _ _ h=>h)(hw:Region.wanted oi (yielded ops a.tmps)=true:=by rfl)(hS:S w:=by assumption):wpAnyH P md ops Q S (fuel+1) listed a w:=
 wpAnyH_take hi hs hf hr hQ (.inl ⟨hw,hy⟩) hS (ha ▸ h)
section
variable {w w' :World}{F G:Nat→Prop}{p:Nat}{r:Rs}{n:Nat}
set_option maxHeartbeats 16000000 in
theorem xB (h:bR w F p r n)(m:Ms)(v:Value)(hN:¬((m.to_=r.id∧0≤m.from_∧m.from_<r.n∧m.from_≠r.id∧1≤m.kind∧m.kind≤4∧1≤m.term∧m.term≤1073741824∧0≤m.index∧m.index≤4096∧0≤m.prev∧m.prev≤m.term∧0≤m.commit∧m.commit≤4096)∧m.kind=3))(hR:¬(m.to_=r.id∧0≤m.from_∧m.from_<r.n∧m.from_≠r.id)):Calls Tryz.prog 105 #[.pointer (some ⟨p,0,none⟩),m.v v] w fun e w' =>e= .returned (.bool (r.proper m))∧Fr No w w' :=by
 have hP:∀W,Fr No w W→W.cell? ⟨p,1,none⟩=some (.int .i64 (r.id:Int))∧W.cell? ⟨p,2,none⟩=some (.int .i64 (r.n:Int)):=fun W hW=>(let ⟨_,_,_,_,_,_,_,_,h1,_⟩:=h.ak hW;⟨h1.cell 1,h1.cell 2⟩);obtain ⟨D,hd⟩:∃D,D=decide (m.to_=r.id∧0≤m.from_∧m.from_<r.n∧m.from_≠r.id∧1≤m.kind∧m.kind≤4∧1≤m.term∧m.term≤1073741824∧0≤m.index∧m.index≤4096∧0≤m.prev∧m.prev≤m.term∧0≤m.commit∧m.commit≤4096):=⟨_,rfl⟩;have hY:r.proper m=D:=by
  rw [Bool.eq_iff_iff,Rs.cB,hd,decide_eq_true_eq]
  constructor
  ·intro q
   exact ⟨q.to_,q.f0,q.f1,q.ne,by have:=q.k;omega,by have:=q.k;omega,q.t0,q.t1,q.i0,q.i1,q.p0,q.p1,q.c0,q.c1⟩
  ·intro q
   have h3:¬m.kind=3:=fun hh=>hN ⟨q,hh⟩;obtain ⟨a1,a2,a3,a4,a5,a6,a7,a8,a9,b1,b2,b3,b4,b5⟩:=q;exact ⟨a1,a4,a2,a3,a7,a8,a9,b1,b2,b3,b4,b5,by omega,fun hh=>absurd hh h3⟩
 have hK:D=true→¬m.kind=3:=fun q hh=>by rw [hd] at q;exact hN ⟨of_decide_eq_true q,hh⟩
 generalize r.proper m=Y at*;clear hN;obtain ⟨kd,mf,mto,mt,ix,pv,cm,ok,es⟩:=m;simp only at*;generalize (r.id:Int)=id at*;generalize (r.n:Int)=nn at*;obtain ⟨W0,hW0⟩:∃W0,W0=w.alloc (.cells (cZ kd mf mto mt ix pv cm ok v) TMs):=⟨_,rfl⟩;have hf0:Fr No w W0:=by rw [hW0];exact aj _ _
 obtain ⟨g,hg⟩:∃g,g=w.heap.size:=⟨_,rfl⟩;have hb:Blk W0 g TMs (cZ kd mf mto mt ix pv cm ok v):=by rw [hW0,hg];exact Blk.new _ _ _
 obtain ⟨p1,p2⟩:=hP _ hf0;obtain ⟨c0,c1,c2,c3,c4,c5,c6,c7,c8⟩:=aL (m:=⟨kd,mf,mto,mt,ix,pv,cm,ok,es⟩) hb;simp only at c0 c1 c2 c3 c4 c5 c6 c7 c8;clear h hP hb;obtain ⟨HF0,HW0,HG,HD,HY,HK,HR⟩:=nC hf0 hW0 hg hd hY hK hR;clear hf0 hW0 hg hd hY hK hR
 go_in
 go_wp2_with fail
 rw [←HG.out,←HW0.out];simp only [List.append_eq,List.cons_append,List.nil_append]
 go_upto_region 1 with fail
 go_cut [5] (fun x wx=>x= .bool D∧wx=W0.drew)
 case first=>
  as_aux_lemma=>
  refine wp_region_held_drew (S:=fun V=>V.cell? ⟨g,0,none⟩=some (.int .i64 kd)∧V.cell? ⟨g,1,none⟩=some (.int .i64 mf)∧V.cell? ⟨g,2,none⟩=some (.int .i64 mto)∧V.cell? ⟨g,3,none⟩=some (.int .i64 mt)∧V.cell? ⟨g,4,none⟩=some (.int .i64 ix)∧V.cell? ⟨g,5,none⟩=some (.int .i64 pv)∧V.cell? ⟨g,6,none⟩=some (.int .i64 cm)∧V.cell? ⟨p,1,none⟩=some (.int .i64 id)∧V.cell? ⟨p,2,none⟩=some (.int .i64 nn)) (by kernel_rfl) ⟨c0,c1,c2,c3,c4,c5,c6,p1,p2⟩ (fun hHeld=> ?_);refine I1 0 rfl ?_;refine I1 1 rfl ?_;refine I1 2 rfl ?_;refine I1 3 rfl ?_;refine I1 4 rfl ?_;refine I1 5 rfl ?_
  by_cases q14:mto=id
  ·as_aux_lemma=>
   have t14:(mto == id)=true:=by simpa using q14
   refine I1 6 rfl ?_;refine I1 7 rfl ?_;refine I1 8 rfl ?_;refine I1 9 rfl ?_
   by_cases q18:0≤mf
   ·as_aux_lemma=>
    have t18:decide (0≤mf)=true:=decide_eq_true q18
    refine I1 10 rfl ?_;refine I1 11 rfl ?_;refine I1 12 rfl ?_;refine I1 13 rfl ?_;refine I1 14 rfl ?_;refine I1 15 rfl ?_;refine I1 16 rfl ?_;refine I1 17 rfl ?_;refine I1 18 rfl ?_
    by_cases q27:mf<nn
    ·as_aux_lemma=>
     have t27:decide (mf<nn)=true:=decide_eq_true q27
     refine I1 19 rfl ?_;refine I1 20 rfl ?_;refine I1 21 rfl ?_;refine I1 22 rfl ?_;refine I1 23 rfl ?_;refine I1 24 rfl ?_;refine I1 25 rfl ?_;refine I1 26 rfl ?_;refine I1 27 rfl ?_
     by_cases q36:mf≠id
     ·exact (HR.out ⟨q14,q18,q27,q36⟩).elim
     ·as_aux_lemma=>
      have t36:(mf != id)=false:=by simpa using q36
      refine I1 28 rfl ?_;refine I1 29 rfl ?_;refine I1 30 rfl ?_;refine bI 31 rfl rfl ?_;simp only [Act.put,za,zb,zc,zd,ze,zf];refine tkN 33 rfl ?_;simp only [Act.put,za,zb,zc,zd,ze,zf];refine I1 34 rfl ?_;refine I1 35 rfl ?_;refine bI 36 rfl rfl ?_;simp only [Act.put,za,zb,zc,zd,ze,zf];refine tkN 38 rfl ?_;simp only [Act.put,za,zb,zc,zd,ze,zf];refine I1 39 rfl ?_;refine I1 40 rfl ?_;refine bI 41 rfl rfl ?_;simp only [Act.put,za,zb,zc,zd,ze,zf]
      as_aux_lemma=>
      refine tkN 43 rfl ?_;simp only [Act.put,za,zb,zc,zd,ze,zf];refine I1 44 rfl ?_;refine I1 45 rfl ?_;refine bI 46 rfl rfl ?_;simp only [Act.put,za,zb,zc,zd,ze,zf];refine tkN 48 rfl ?_;simp only [Act.put,za,zb,zc,zd,ze,zf];refine I1 49 rfl ?_;refine I1 50 rfl ?_;refine bI 51 rfl rfl ?_;simp only [Act.put,za,zb,zc,zd,ze,zf];refine tkN 53 rfl ?_;simp only [Act.put,za,zb,zc,zd,ze,zf];refine I1 54 rfl ?_;refine I1 55 rfl ?_;refine bI 56 rfl rfl ?_;simp only [Act.put,za,zb,zc,zd,ze,zf]
      as_aux_lemma=>
      refine tkN 58 rfl ?_;simp only [Act.put,za,zb,zc,zd,ze,zf];refine I1 59 rfl ?_;refine I1 60 rfl ?_;refine bI 61 rfl rfl ?_;simp only [Act.put,za,zb,zc,zd,ze,zf];refine tkN 63 rfl ?_;simp only [Act.put,za,zb,zc,zd,ze,zf];refine I1 64 rfl ?_;refine I1 65 rfl ?_;refine bI 66 rfl rfl ?_;simp only [Act.put,za,zb,zc,zd,ze,zf];refine bI 68 rfl rfl ?_;simp only [Act.put,za,zb,zc,zd,ze,zf]
      refine tkN 70 rfl ?_;simp only [Act.put,za,zb,zc,zd,ze,zf];refine I1 71 rfl ?_;refine I1 72 rfl ?_;refine bI 73 rfl rfl ?_;simp only [Act.put,za,zb,zc,zd,ze,zf];refine tkN 75 rfl ?_;simp only [Act.put,za,zb,zc,zd,ze,zf];refine I1 76 rfl ?_;refine I1 77 rfl ?_;refine bI 78 rfl rfl ?_;simp only [Act.put,za,zb,zc,zd,ze,zf];refine tkN 80 rfl ?_;simp only [Act.put,za,zb,zc,zd,ze,zf];refine I1 81 rfl ?_;refine I1 82 rfl ?_;refine wpAnyH_done (by kernel_rfl) ?_ _
      try have q14:=Q14.out
      have hD:D=false:=by rw [HD.out];exact dff
      try clear t14 q14
      go_wp2_with fail
      go_meet
      exact ⟨by rw [hD],rfl⟩
    ·as_aux_lemma=>
     have t27:decide (mf<nn)=false:=decide_eq_false q27
     refine I1 19 rfl ?_;refine I1 20 rfl ?_;refine I1 21 rfl ?_;refine bI 22 rfl rfl ?_;simp only [Act.put,za,zb,zc,zd,ze,zf];refine bI 24 rfl rfl ?_;simp only [Act.put,za,zb,zc,zd,ze,zf];refine bI 26 rfl rfl ?_;simp only [Act.put,za,zb,zc,zd,ze,zf];refine tkN 28 rfl ?_;simp only [Act.put,za,zb,zc,zd,ze,zf];refine I1 29 rfl ?_;refine I1 30 rfl ?_;refine bI 31 rfl rfl ?_;simp only [Act.put,za,zb,zc,zd,ze,zf];refine tkN 33 rfl ?_;simp only [Act.put,za,zb,zc,zd,ze,zf];refine I1 34 rfl ?_
     as_aux_lemma=>
     refine I1 35 rfl ?_;refine bI 36 rfl rfl ?_;simp only [Act.put,za,zb,zc,zd,ze,zf];refine tkN 38 rfl ?_;simp only [Act.put,za,zb,zc,zd,ze,zf];refine I1 39 rfl ?_;refine I1 40 rfl ?_;refine bI 41 rfl rfl ?_;simp only [Act.put,za,zb,zc,zd,ze,zf];refine tkN 43 rfl ?_;simp only [Act.put,za,zb,zc,zd,ze,zf];refine I1 44 rfl ?_;refine I1 45 rfl ?_;refine bI 46 rfl rfl ?_;simp only [Act.put,za,zb,zc,zd,ze,zf];refine tkN 48 rfl ?_;simp only [Act.put,za,zb,zc,zd,ze,zf];refine I1 49 rfl ?_
     as_aux_lemma=>
     refine I1 50 rfl ?_;refine bI 51 rfl rfl ?_;simp only [Act.put,za,zb,zc,zd,ze,zf];refine tkN 53 rfl ?_;simp only [Act.put,za,zb,zc,zd,ze,zf];refine I1 54 rfl ?_;refine I1 55 rfl ?_;refine bI 56 rfl rfl ?_;simp only [Act.put,za,zb,zc,zd,ze,zf];refine tkN 58 rfl ?_;simp only [Act.put,za,zb,zc,zd,ze,zf];refine I1 59 rfl ?_;refine I1 60 rfl ?_
     refine bI 61 rfl rfl ?_;simp only [Act.put,za,zb,zc,zd,ze,zf];refine tkN 63 rfl ?_;simp only [Act.put,za,zb,zc,zd,ze,zf];refine I1 64 rfl ?_;refine I1 65 rfl ?_;refine bI 66 rfl rfl ?_;simp only [Act.put,za,zb,zc,zd,ze,zf];refine bI 68 rfl rfl ?_;simp only [Act.put,za,zb,zc,zd,ze,zf];refine tkN 70 rfl ?_;simp only [Act.put,za,zb,zc,zd,ze,zf];refine I1 71 rfl ?_;refine I1 72 rfl ?_;refine bI 73 rfl rfl ?_;simp only [Act.put,za,zb,zc,zd,ze,zf];refine tkN 75 rfl ?_;simp only [Act.put,za,zb,zc,zd,ze,zf];refine I1 76 rfl ?_
     as_aux_lemma=>
     refine I1 77 rfl ?_;refine bI 78 rfl rfl ?_;simp only [Act.put,za,zb,zc,zd,ze,zf];refine tkN 80 rfl ?_;simp only [Act.put,za,zb,zc,zd,ze,zf];refine I1 81 rfl ?_;refine I1 82 rfl ?_;refine wpAnyH_done (by kernel_rfl) ?_ _
     try have q14:=Q14.out
     have hD:D=false:=by rw [HD.out];exact dff
     try clear t14 q14
     go_wp2_with fail
     go_meet
     exact ⟨by rw [hD],rfl⟩
   ·as_aux_lemma=>
    have t18:decide (0≤mf)=false:=decide_eq_false q18
    refine I1 10 rfl ?_;refine I1 11 rfl ?_;refine I1 12 rfl ?_;refine bI 13 rfl rfl ?_;simp only [Act.put,za,zb,zc,zd,ze,zf];refine bI 15 rfl rfl ?_;simp only [Act.put,za,zb,zc,zd,ze,zf];refine bI 17 rfl rfl ?_;simp only [Act.put,za,zb,zc,zd,ze,zf];refine tkN 19 rfl ?_;simp only [Act.put,za,zb,zc,zd,ze,zf];refine I1 20 rfl ?_;refine I1 21 rfl ?_;refine bI 22 rfl rfl ?_;simp only [Act.put,za,zb,zc,zd,ze,zf];refine bI 24 rfl rfl ?_;simp only [Act.put,za,zb,zc,zd,ze,zf];refine bI 26 rfl rfl ?_;simp only [Act.put,za,zb,zc,zd,ze,zf]
    as_aux_lemma=>
    refine tkN 28 rfl ?_;simp only [Act.put,za,zb,zc,zd,ze,zf];refine I1 29 rfl ?_;refine I1 30 rfl ?_;refine bI 31 rfl rfl ?_;simp only [Act.put,za,zb,zc,zd,ze,zf];refine tkN 33 rfl ?_;simp only [Act.put,za,zb,zc,zd,ze,zf];refine I1 34 rfl ?_;refine I1 35 rfl ?_;refine bI 36 rfl rfl ?_;simp only [Act.put,za,zb,zc,zd,ze,zf];refine tkN 38 rfl ?_;simp only [Act.put,za,zb,zc,zd,ze,zf];refine I1 39 rfl ?_;refine I1 40 rfl ?_;refine bI 41 rfl rfl ?_;simp only [Act.put,za,zb,zc,zd,ze,zf]
    as_aux_lemma=>
    refine tkN 43 rfl ?_;simp only [Act.put,za,zb,zc,zd,ze,zf];refine I1 44 rfl ?_;refine I1 45 rfl ?_;refine bI 46 rfl rfl ?_;simp only [Act.put,za,zb,zc,zd,ze,zf];refine tkN 48 rfl ?_;simp only [Act.put,za,zb,zc,zd,ze,zf];refine I1 49 rfl ?_;refine I1 50 rfl ?_;refine bI 51 rfl rfl ?_;simp only [Act.put,za,zb,zc,zd,ze,zf];refine tkN 53 rfl ?_;simp only [Act.put,za,zb,zc,zd,ze,zf]
    refine I1 54 rfl ?_;refine I1 55 rfl ?_;refine bI 56 rfl rfl ?_;simp only [Act.put,za,zb,zc,zd,ze,zf];refine tkN 58 rfl ?_;simp only [Act.put,za,zb,zc,zd,ze,zf];refine I1 59 rfl ?_;refine I1 60 rfl ?_;refine bI 61 rfl rfl ?_;simp only [Act.put,za,zb,zc,zd,ze,zf];refine tkN 63 rfl ?_;simp only [Act.put,za,zb,zc,zd,ze,zf];refine I1 64 rfl ?_;refine I1 65 rfl ?_;refine bI 66 rfl rfl ?_;simp only [Act.put,za,zb,zc,zd,ze,zf];refine bI 68 rfl rfl ?_;simp only [Act.put,za,zb,zc,zd,ze,zf]
    as_aux_lemma=>
    refine tkN 70 rfl ?_;simp only [Act.put,za,zb,zc,zd,ze,zf];refine I1 71 rfl ?_;refine I1 72 rfl ?_;refine bI 73 rfl rfl ?_;simp only [Act.put,za,zb,zc,zd,ze,zf];refine tkN 75 rfl ?_;simp only [Act.put,za,zb,zc,zd,ze,zf];refine I1 76 rfl ?_;refine I1 77 rfl ?_;refine bI 78 rfl rfl ?_;simp only [Act.put,za,zb,zc,zd,ze,zf];refine tkN 80 rfl ?_;simp only [Act.put,za,zb,zc,zd,ze,zf];refine I1 81 rfl ?_;refine I1 82 rfl ?_;refine wpAnyH_done (by kernel_rfl) ?_ _
    try have q14:=Q14.out
    have hD:D=false:=by rw [HD.out];exact dff
    try clear t14 q14
    go_wp2_with fail
    go_meet
    exact ⟨by rw [hD],rfl⟩
  ·as_aux_lemma=>
   have t14:(mto == id)=false:=by simpa using q14
   refine I1 6 rfl ?_;refine I1 7 rfl ?_;refine bI 8 rfl rfl ?_;simp only [Act.put,za,zb,zc,zd,ze,zf];refine tkN 10 rfl ?_;simp only [Act.put,za,zb,zc,zd,ze,zf];refine I1 11 rfl ?_;refine I1 12 rfl ?_;refine bI 13 rfl rfl ?_;simp only [Act.put,za,zb,zc,zd,ze,zf];refine bI 15 rfl rfl ?_;simp only [Act.put,za,zb,zc,zd,ze,zf];refine bI 17 rfl rfl ?_;simp only [Act.put,za,zb,zc,zd,ze,zf];refine tkN 19 rfl ?_;simp only [Act.put,za,zb,zc,zd,ze,zf];refine I1 20 rfl ?_;refine I1 21 rfl ?_
   as_aux_lemma=>
   refine bI 22 rfl rfl ?_;simp only [Act.put,za,zb,zc,zd,ze,zf];refine bI 24 rfl rfl ?_;simp only [Act.put,za,zb,zc,zd,ze,zf];refine bI 26 rfl rfl ?_;simp only [Act.put,za,zb,zc,zd,ze,zf];refine tkN 28 rfl ?_;simp only [Act.put,za,zb,zc,zd,ze,zf];refine I1 29 rfl ?_;refine I1 30 rfl ?_;refine bI 31 rfl rfl ?_;simp only [Act.put,za,zb,zc,zd,ze,zf];refine tkN 33 rfl ?_;simp only [Act.put,za,zb,zc,zd,ze,zf];refine I1 34 rfl ?_;refine I1 35 rfl ?_;refine bI 36 rfl rfl ?_;simp only [Act.put,za,zb,zc,zd,ze,zf];refine tkN 38 rfl ?_;simp only [Act.put,za,zb,zc,zd,ze,zf]
   as_aux_lemma=>
   refine I1 39 rfl ?_;refine I1 40 rfl ?_;refine bI 41 rfl rfl ?_;simp only [Act.put,za,zb,zc,zd,ze,zf];refine tkN 43 rfl ?_;simp only [Act.put,za,zb,zc,zd,ze,zf];refine I1 44 rfl ?_;refine I1 45 rfl ?_;refine bI 46 rfl rfl ?_;simp only [Act.put,za,zb,zc,zd,ze,zf];refine tkN 48 rfl ?_;simp only [Act.put,za,zb,zc,zd,ze,zf];refine I1 49 rfl ?_
   refine I1 50 rfl ?_;refine bI 51 rfl rfl ?_;simp only [Act.put,za,zb,zc,zd,ze,zf];refine tkN 53 rfl ?_;simp only [Act.put,za,zb,zc,zd,ze,zf];refine I1 54 rfl ?_;refine I1 55 rfl ?_;refine bI 56 rfl rfl ?_;simp only [Act.put,za,zb,zc,zd,ze,zf];refine tkN 58 rfl ?_;simp only [Act.put,za,zb,zc,zd,ze,zf];refine I1 59 rfl ?_;refine I1 60 rfl ?_;refine bI 61 rfl rfl ?_;simp only [Act.put,za,zb,zc,zd,ze,zf];refine tkN 63 rfl ?_;simp only [Act.put,za,zb,zc,zd,ze,zf];refine I1 64 rfl ?_
   as_aux_lemma=>
   refine I1 65 rfl ?_;refine bI 66 rfl rfl ?_;simp only [Act.put,za,zb,zc,zd,ze,zf];refine bI 68 rfl rfl ?_;simp only [Act.put,za,zb,zc,zd,ze,zf];refine tkN 70 rfl ?_;simp only [Act.put,za,zb,zc,zd,ze,zf];refine I1 71 rfl ?_;refine I1 72 rfl ?_;refine bI 73 rfl rfl ?_;simp only [Act.put,za,zb,zc,zd,ze,zf];refine tkN 75 rfl ?_;simp only [Act.put,za,zb,zc,zd,ze,zf];refine I1 76 rfl ?_;refine I1 77 rfl ?_;refine bI 78 rfl rfl ?_;simp only [Act.put,za,zb,zc,zd,ze,zf];refine tkN 80 rfl ?_;simp only [Act.put,za,zb,zc,zd,ze,zf]
   as_aux_lemma=>
   refine I1 81 rfl ?_;refine I1 82 rfl ?_;refine wpAnyH_done (by kernel_rfl) ?_ _
   try have q14:=Q14.out
   have hD:D=false:=by rw [HD.out];exact dff
   try clear t14 q14
   go_wp2_with fail
   go_meet
   exact ⟨by rw [hD],rfl⟩
 case rest=>
  as_aux_lemma=>
  obtain ⟨rfl,rfl⟩:=hcut;obtain ⟨d0⟩:Nonempty (W0.drew.cell? ⟨g,0,none⟩=some (.int .i64 kd)):=⟨c0⟩;clear c0 c1 c2 c3 c4 c5 c6 c7 c8 p1 p2
  try clear q14
  cases D
  ·go_wp2_with fail
   go_ret
   exact ⟨au HY.out.symm,HF0.out.drew⟩
  ·have hk3:=HK.out rfl
   have u3:(kd != 3)=true:=by simpa using hk3
   clear hk3
   go_wp2_with fail
   go_ret
   exact ⟨au HY.out.symm,HF0.out.drew⟩
end
end Go.Proofs.YtjnfmfmglehmbaaGreat
