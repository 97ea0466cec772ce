/-
  The reference's replica: which messages are proper.
-/
import Derived.Test.YtjnfmfmglehmbaaGreatQ35
namespace Go.Proofs.YtjnfmfmglehmbaaGreat
open Go.ChangeShapes Go.WideShapes Go.ChangeAt Go.RowKit
set_option linter.unusedVariables false
set_option maxRecDepth 100000
set_option maxHeartbeats 4000000
section
variable {w w' :World}{F G:Nat→Prop}{p:Nat}{r:Rs}{n:Nat}
set_option maxHeartbeats 16000000 in
theorem rE (h:bR w F p r n)(m:Ms)(A:Option Addr)(c:Nat)(hE:Ent w G (.slice A m.es.length c) m.es)(hlen:m.es.length≤1000000)(hX:(m.prev=0↔m.index=0)∧m.index+(m.es.length:Int)≤4096)(hT:(m.to_=r.id∧0≤m.from_∧m.from_<r.n∧m.from_≠r.id∧1≤m.kind∧m.kind≤4∧1≤m.term∧m.term≤1073741824∧0≤m.index∧m.index≤4096∧0≤m.prev∧m.prev≤m.term∧0≤m.commit∧m.commit≤4096)∧m.kind=3):Calls Tryz.prog 105 #[.pointer (some ⟨p,0,none⟩),m.v (.slice A m.es.length c)] w fun e w' =>e= .returned (.bool (r.proper m))∧Fr No w w' :=by
 have hP:∀W,Fr No w W→W.cell? ⟨p,1,none⟩=some (.int .i64 (r.id:Int))∧W.cell? ⟨p,2,none⟩=some (.int .i64 (r.n:Int)):=fun W hW=>(let ⟨_,_,_,_,_,_,_,_,h1,_⟩:=h.ak hW;⟨h1.cell 1,h1.cell 2⟩);have hM:=hE.rd.2.2.2.1;have hM2:=hE.rd.2.2.1;unfold maxLen at hM;have hY:r.proper m=eu m:=by
  obtain ⟨⟨a1,a2,a3,a4,a5,a6,a7,a8,a9,b1,b2,b3,b4,b5⟩,h3⟩:=hT;rw [Bool.eq_iff_iff,Rs.cB];exact ⟨fun q=>q.a h3,fun q=>⟨a1,a4,a2,a3,a7,a8,a9,b1,b2,b3,b4,b5,by omega,fun _=>q⟩⟩
 have hPA:∀b1 b2 b3:Bool,((m.prev == 0) == (m.index == 0))=b1→decide (m.index+m.es.length≤4096)=b2→chainB m.term (max 1 m.prev) m.es=b3→eu m=(b1 && (b2 && b3)):=fun b1 b2 b3 q1 q2 q3=>by unfold eu;rw [q1,q2,q3]
 rw [hY];obtain ⟨Y,hYY⟩:∃Y,Y=eu m:=⟨_,rfl⟩;rw [←hYY] at hPA ⊢;clear hY hYY;obtain ⟨v,hv⟩:∃v:Value,v= .slice A m.es.length c:=⟨_,rfl⟩;have hat:=fun i hi=>hE.at_ (i:=i) hi;rw [←hv];obtain ⟨kd,mf,mto,mt,ix,pv,cm,ok,es⟩:=m;simp only at*;generalize (r.id:Int)=id at*;generalize (r.n:Int)=nn at*;obtain ⟨W0,hW0⟩:∃W0,W0=w.alloc (.cells (cZ kd mf mto mt ix pv cm ok v) TMs):=⟨_,rfl⟩;have hf0:Fr No w W0:=by rw [hW0];exact aj _ _
 obtain ⟨g,hg⟩:∃g,g=w.heap.size:=⟨_,rfl⟩;have hb:Blk W0 g TMs (cZ kd mf mto mt ix pv cm ok v):=by rw [hW0,hg];exact Blk.new _ _ _
 obtain ⟨p1,p2⟩:=hP _ hf0;obtain ⟨c0,c1,c2,c3,c4,c5,c6,c7,c8⟩:=aL (m:=⟨kd,mf,mto,mt,ix,pv,cm,ok,es⟩) hb;simp only at c0 c1 c2 c3 c4 c5 c6 c7 c8;obtain ⟨⟨q14,q18,q27,q36,q41,q46,q51,q56,q61,q66,q71,q78,q83,q88⟩,hk3⟩:=hT;have t14:(mto == id)=true:=by simpa using q14
 have t18:decide (0≤mf)=true:=decide_eq_true q18;have t27:decide (mf<nn)=true:=decide_eq_true q27;have t36:(mf != id)=true:=by simpa using q36
 have t41:decide (1≤kd)=true:=decide_eq_true q41;have t46:decide (kd≤4)=true:=decide_eq_true q46;have t51:decide (1≤mt)=true:=decide_eq_true q51;have t56:decide (mt≤1073741824)=true:=decide_eq_true q56;have t61:decide (0≤ix)=true:=decide_eq_true q61;have t66:decide (ix≤4096)=true:=decide_eq_true q66;have t71:decide (0≤pv)=true:=decide_eq_true q71;have t78:decide (pv≤mt)=true:=decide_eq_true q78;have t83:decide (0≤cm)=true:=decide_eq_true q83;have t88:decide (cm≤4096)=true:=decide_eq_true q88;subst hk3;clear q14 q36;have hC:∀V,Fr No W0 V→(V.cell? ⟨g,3,none⟩=some (.int .i64 mt)∧V.cell? ⟨g,8,none⟩=some v):=fun V hV=>⟨(hb.fr hV (fun h=>h)).cell 3,(hb.fr hV (fun h=>h)).cell 8⟩;have al7:(V0:World)→V0=W0.drew→(V0.cell? ⟨g,0,none⟩=some (.int .i64 3)∧V0.cell? ⟨g,4,none⟩=some (.int .i64 ix)∧V0.cell? ⟨g,5,none⟩=some (.int .i64 pv)):=fun V0 he=>by rw [he];exact ⟨c0,c4,c5⟩
 clear h hP hE;have HX:=O hX;clear hX;obtain ⟨HF0,HW0,HG,HAT,HPA,HC,HV,aoq,HB⟩:=aap hf0 hW0 hg hat hPA hC hv al7 hb;clear hf0 hW0 hg hat hPA hC hv al7 hb
 go_in
 go_wp2_with fail
 rw [←HG.out,←HW0.out];simp only [List.append_eq,List.cons_append,List.nil_append]
 go_upto_region 1 with fail
 go_cut [5] (fun x wx=>x= .bool true∧wx=W0.drew)
 case first=>
  as_aux_lemma=>
   refine wp_region_held_drew (S:=fun V=>V.cell? ⟨g,0,none⟩=some (.int .i64 3)∧V.cell? ⟨g,1,none⟩=some (.int .i64 mf)∧V.cell? ⟨g,2,none⟩=some (.int .i64 mto)∧V.cell? ⟨g,3,none⟩=some (.int .i64 mt)∧V.cell? ⟨g,4,none⟩=some (.int .i64 ix)∧V.cell? ⟨g,5,none⟩=some (.int .i64 pv)∧V.cell? ⟨g,6,none⟩=some (.int .i64 cm)∧V.cell? ⟨p,1,none⟩=some (.int .i64 id)∧V.cell? ⟨p,2,none⟩=some (.int .i64 nn)) (by kernel_rfl) ⟨c0,c1,c2,c3,c4,c5,c6,p1,p2⟩ (fun hHeld=> ?_);refine I 0 rfl ?_;simp only [Act.put,J];refine I 1 rfl ?_;simp only [Act.put,J];refine I 2 rfl ?_;simp only [Act.put,J];refine I 3 rfl ?_;simp only [Act.put,J];refine I 4 rfl ?_;simp only [Act.put,J];refine I 5 rfl ?_;simp only [Act.put,J];refine I 6 rfl ?_;simp only [Act.put,J];refine I 7 rfl ?_;simp only [Act.put,J];refine I 8 rfl ?_;simp only [Act.put,J];refine I 9 rfl ?_;simp only [Act.put,J];refine I 10 rfl ?_;simp only [Act.put,J];refine I 11 rfl ?_;simp only [Act.put,J];refine I 12 rfl ?_;simp only [Act.put,J];refine I 13 rfl ?_;simp only [Act.put,J];refine I 14 rfl ?_;simp only [Act.put,J];refine I 15 rfl ?_;simp only [Act.put,J];refine I 16 rfl ?_;simp only [Act.put,J];refine I 17 rfl ?_;simp only [Act.put,J];refine I 18 rfl ?_;simp only [Act.put,J];refine I 19 rfl ?_;simp only [Act.put,J];refine I 20 rfl ?_;simp only [Act.put,J];refine I 21 rfl ?_;simp only [Act.put,J];refine I 22 rfl ?_;simp only [Act.put,J];refine I 23 rfl ?_;simp only [Act.put,J]
   refine I 24 rfl ?_;simp only [Act.put,J];refine I 25 rfl ?_;simp only [Act.put,J];refine I 26 rfl ?_;simp only [Act.put,J];refine I 27 rfl ?_;simp only [Act.put,J];refine I 28 rfl ?_;simp only [Act.put,J];refine I 29 rfl ?_;simp only [Act.put,J];refine I 30 rfl ?_;simp only [Act.put,J];refine I 31 rfl ?_;simp only [Act.put,J];refine I 32 rfl ?_;simp only [Act.put,J];refine I 33 rfl ?_;simp only [Act.put,J];refine I 34 rfl ?_;simp only [Act.put,J];refine I 35 rfl ?_;simp only [Act.put,J];refine I 36 rfl ?_;simp only [Act.put,J];refine I 37 rfl ?_;simp only [Act.put,J];refine I 38 rfl ?_;simp only [Act.put,J];refine I 39 rfl ?_;simp only [Act.put,J];refine I 40 rfl ?_;simp only [Act.put,J];refine I 41 rfl ?_;simp only [Act.put,J];refine I 42 rfl ?_;simp only [Act.put,J];refine I 43 rfl ?_;simp only [Act.put,J];refine I 44 rfl ?_;simp only [Act.put,J];refine I 45 rfl ?_;simp only [Act.put,J];refine I 46 rfl ?_;simp only [Act.put,J];refine I 47 rfl ?_;simp only [Act.put,J];refine I 48 rfl ?_;simp only [Act.put,J];refine I 49 rfl ?_;simp only [Act.put,J];refine I 50 rfl ?_;simp only [Act.put,J];refine I 51 rfl ?_;simp only [Act.put,J];refine I 52 rfl ?_;simp only [Act.put,J];refine I 53 rfl ?_;simp only [Act.put,J];refine I 54 rfl ?_;simp only [Act.put,J];refine I 55 rfl ?_;simp only [Act.put,J];refine I 56 rfl ?_;simp only [Act.put,J];refine I 57 rfl ?_;simp only [Act.put,J];refine I 58 rfl ?_
   simp only [Act.put,J];refine I 59 rfl ?_;simp only [Act.put,J];refine I 60 rfl ?_;simp only [Act.put,J];refine I 61 rfl ?_;simp only [Act.put,J];refine I 62 rfl ?_;simp only [Act.put,J];refine I 63 rfl ?_;simp only [Act.put,J];refine I 64 rfl ?_;simp only [Act.put,J];refine I 65 rfl ?_;simp only [Act.put,J];refine I 66 rfl ?_;simp only [Act.put,J];refine I 67 rfl ?_;simp only [Act.put,J];refine I 68 rfl ?_;simp only [Act.put,J];refine I 69 rfl ?_;simp only [Act.put,J];refine I 70 rfl ?_;simp only [Act.put,J];refine I 71 rfl ?_;simp only [Act.put,J];refine I 72 rfl ?_;simp only [Act.put,J];refine I 73 rfl ?_;simp only [Act.put,J];refine I 74 rfl ?_;simp only [Act.put,J];refine I 75 rfl ?_;simp only [Act.put,J];refine I 76 rfl ?_;simp only [Act.put,J];refine I 77 rfl ?_;simp only [Act.put,J];refine I 78 rfl ?_;simp only [Act.put,J];refine I 79 rfl ?_;simp only [Act.put,J];refine I 80 rfl ?_;simp only [Act.put,J];refine I 81 rfl ?_;simp only [Act.put,J];refine I 82 rfl ?_;simp only [Act.put,J];refine wpAnyH_done (by kernel_rfl) ?_ _
   go_wp2_with fail
   go_meet
   exact ⟨rfl,rfl⟩
 case rest=>
  obtain ⟨rfl,rfl⟩:=hcut;clear c0 c1 c2 c3 c4 c5 c6 c7 c8 p1 p2 t14 t18 t27 t36 t41 t46 t51 t56 t61 t66 t71 t78 t83 t88;obtain ⟨d0,d4,d5⟩:=aoq.out _ rfl;obtain ⟨d3,d8⟩:=HC.out _ (Fr.refl No W0).drew;rw [HV.out] at d8;have hl0:(0:Int)≤(es.length:Int):=by omega
  have hwr:IntKind.i64.wrap (4096-ix)=4096-ix:=IntWalk.i64_in _ oy;obtain ⟨hq,hl'⟩:=HX.out;have hl:¬4096<ix+(es.length:Int):=by omega
  have q1:((pv == 0) == (ix == 0))=true:=by
   by_cases u:pv=0
   ·have v:=hq.1 u
    rw [u,v]
    rfl
   ·have v:¬ix=0:=fun h=>u (hq.2 h)
    have u1:(pv == 0)=false:=by simpa using u
    have v1:(ix == 0)=false:=by simpa using v
    rw [u1,v1]
    rfl
  have q2:(pv == 0)=(ix == 0):=by simpa using q1
  clear hq;have hY:=HPA.out true true _ q1 (by simp;omega) rfl;rw [Bool.true_and,Bool.true_and] at hY;have z1:decide (4096-ix<(es.length:Int))=false:=dff;clear q1 HPA;have hmx:(if 1<pv then pv else 1)=max 1 pv:=by split<;>omega
  obtain ⟨HY,HMX⟩:=aO hY hmx;clear hY hmx
  go_upto_region 6 with fail
  go_cut [6] (fun x wx=>x= .int .i64 (max 1 pv)∧Fr No W0 wx)
  case first=>
   as_aux_lemma=>
    go_wp2_with fail
    all_goals
     go_meet
     exact ⟨by congr 1;omega,by first|exact (Fr.refl No W0).drew|exact (Fr.refl No W0).drew.drew|exact (Fr.refl No W0).drewN _|exact (Fr.refl No W0).drew.drewN _⟩
  obtain ⟨rfl,fwx⟩:=hcut;have HWX:=O fwx;clear fwx;clear d0 d3 d4 d5 d8
  go_wp2_with fail
  go_loopw [6,7] (fun low i wr=>∃(k:Nat) (L:Int),k≤es.length∧i= .int .i64 k∧low= .int .i64 L∧Y=chainB mt L (es.drop k)∧Fr No W0 wr) (fun _ i _=>es.length-(intOf i).toNat)
  case atStart=>exact ⟨0,_,Nat.zero_le _,rfl,rfl,by rw [HY.out,List.drop_zero],HWX.out⟩
  case round=>
   as_aux_lemma=>
    clear z1 q2 hwr HY HMX;obtain ⟨k,L,hk,rfl,rfl,hch,hf⟩:=hrel;obtain ⟨d3,d8⟩:=HC.out _ hf;rw [HV.out] at d8;have HF:=O hf;clear hf
    by_cases hlt:k<es.length
    ·have hlt2:(k:Int)<(es.length:Int):=by omega
     obtain ⟨b,off,x,rfl,hx,hcs⟩:=HAT.out k hlt;have hdrop:es.drop k=x :: es.drop (k+1):=by
      rw [List.drop_eq_getElem_cons hlt]
      congr 1
      rw [List.getElem?_eq_getElem hlt] at hx;injection hx
     rw [hdrop] at hch;simp only [chainB] at hch;have hS:=fun V=>nI x.e V;obtain ⟨t,⟨k0,tick,te,ce,ot,ep,fr,un,nn2⟩⟩:=x;unfold En.v at hS;simp only at*;generalize dW ⟨k0,tick,te,ce,ot,ep,fr,un,nn2⟩=sb at*;have hSS:∀V,Fr No W0 V→(V.cell? ⟨g,3,none⟩=some (.int .i64 mt)∧V.cell? ⟨g,8,none⟩=some (.slice (some ⟨b,off,none⟩) es.length c)∧V.cell? ⟨b,off+k*10,none⟩=some (.int .i64 t)∧V.cell? ⟨b,off+k*10+1,none⟩=some (.int .i64 k0)∧V.cell? ⟨b,off+k*10+2,none⟩=some (.int .i64 tick)∧V.cell? ⟨b,off+k*10+3,none⟩=some (.int .i64 te)∧V.cell? ⟨b,off+k*10+4,none⟩=some (.int .i64 ce)∧V.cell? ⟨b,off+k*10+5,none⟩=some (.int .i64 ot)∧V.cell? ⟨b,off+k*10+6,none⟩=some (.int .i64 ep)∧V.cell? ⟨b,off+k*10+7,none⟩=some (.int .i64 fr)∧V.cell? ⟨b,off+k*10+8,none⟩=some (.int .i64 un)∧V.cell? ⟨b,off+k*10+9,none⟩=some (.int .i64 nn2)):=fun V hV=>⟨(HC.out V hV).1,by rw [←HV.out];exact (HC.out V hV).2,hcs V (HF0.out.ah hV)⟩;clear hx hdrop hcs HAT;obtain ⟨HS,HSS,HCH⟩:=bP hS hSS hch;clear hS hSS hch
     go_upto_region 10 with fail
     go_cut [152] (fun x wx=>x= .bool (!sb || (decide (t<L) || decide (mt<t)))∧Fr No W0 wx)
     case first=>
      refine wp_region_held_drew (S:=fun V=>Fr No W0 V∧V.cell? ⟨g,3,none⟩=some (.int .i64 mt)∧V.cell? ⟨g,8,none⟩=some (.slice (some ⟨b,off,none⟩) es.length c)∧V.cell? ⟨b,off+k*10,none⟩=some (.int .i64 t)∧V.cell? ⟨b,off+k*10+1,none⟩=some (.int .i64 k0)∧V.cell? ⟨b,off+k*10+2,none⟩=some (.int .i64 tick)∧V.cell? ⟨b,off+k*10+3,none⟩=some (.int .i64 te)∧V.cell? ⟨b,off+k*10+4,none⟩=some (.int .i64 ce)∧V.cell? ⟨b,off+k*10+5,none⟩=some (.int .i64 ot)∧V.cell? ⟨b,off+k*10+6,none⟩=some (.int .i64 ep)∧V.cell? ⟨b,off+k*10+7,none⟩=some (.int .i64 fr)∧V.cell? ⟨b,off+k*10+8,none⟩=some (.int .i64 un)∧V.cell? ⟨b,off+k*10+9,none⟩=some (.int .i64 nn2)) (by kernel_rfl) (⟨HF.out.drew,HSS.out _ (HF.out.drew)⟩) (fun hHeld=> ?_);refine I 0 rfl ?_;simp only [Act.put,J];refine I 1 rfl ?_;simp only [Act.put,J];refine I 2 rfl ?_;simp only [Act.put,J];refine I 3 rfl ?_;simp only [Act.put,J];refine I 4 rfl ?_;simp only [Act.put,J];refine I 5 rfl ?_;simp only [Act.put,J];refine wpAnyH_ready (rs:=[6]) (by kernel_rfl) (by simp) (AllReadyH.cons rfl (fun K hK=> ?_) AllReadyH.nil)
      go_simp
      refine (HS.out _).mono ?_;rintro e w5 ⟨rfl,f5⟩;have QV:=O (hHeld.1.ah f5)
      go_wp2_with fail
      clear hHeld;refine hK.out _ _ (⟨QV.out,HSS.out _ (QV.out)⟩) (fun hHeld=> ?_);clear hK K QV
      try simp only [Act.put,J]
      refine I 7 rfl ?_;simp only [Act.put,J];refine I 8 rfl ?_;simp only [Act.put,J]
      cases sb
      ·refine tkN 9 rfl ?_
       simp only [Act.put,J];refine bI 10 rfl rfl ?_;simp only [Act.put,J];refine bI 12 rfl rfl ?_;simp only [Act.put,J];refine bI 14 rfl rfl ?_;simp only [Act.put,J];refine tkN 16 rfl ?_;simp only [Act.put,J];refine I 17 rfl ?_;simp only [Act.put,J];refine I 18 rfl ?_;simp only [Act.put,J];refine bI 19 rfl rfl ?_;simp only [Act.put,J];refine bI 21 rfl rfl ?_;simp only [Act.put,J];refine bI 23 rfl rfl ?_;simp only [Act.put,J];refine bI 25 rfl rfl ?_;simp only [Act.put,J];refine tkN 27 rfl ?_;simp only [Act.put,J];refine I 28 rfl ?_;simp only [Act.put,J];refine wpAnyH_done (by kernel_rfl) ?_ _;have K2:=O hHeld.1;clear hHeld
       go_wp2_with fail
       go_meet
       exact ⟨rfl,K2.out⟩
      ·refine I 9 rfl ?_
       simp only [Act.put,J];refine I 10 rfl ?_;simp only [Act.put,J];refine I 11 rfl ?_;simp only [Act.put,J];refine I 12 rfl ?_;simp only [Act.put,J];refine I 13 rfl ?_;simp only [Act.put,J];refine I 14 rfl ?_;simp only [Act.put,J];refine I 15 rfl ?_;simp only [Act.put,J]
       by_cases v1:t<L
       ·have v2:decide (t<L)=true:=by simpa using v1
        refine I 16 rfl ?_;simp only [Act.put,J];refine I 17 rfl ?_;simp only [Act.put,J];refine I 18 rfl ?_;simp only [Act.put,J];refine bI 19 rfl rfl ?_;simp only [Act.put,J];refine bI 21 rfl rfl ?_;simp only [Act.put,J];refine bI 23 rfl rfl ?_;simp only [Act.put,J];refine bI 25 rfl rfl ?_;simp only [Act.put,J];refine tkN 27 rfl ?_;simp only [Act.put,J];refine I 28 rfl ?_;simp only [Act.put,J];refine wpAnyH_done (by kernel_rfl) ?_ _;have K2:=O hHeld.1;clear hHeld
        go_wp2_with fail
        go_meet
        exact ⟨by rw [v2];rfl,K2.out⟩
       ·have v2:decide (t<L)=false:=by simpa using v1
        by_cases v3:mt<t
        ·have v4:decide (mt<t)=true:=by simpa using v3
         refine I 16 rfl ?_;simp only [Act.put,J];refine I 17 rfl ?_;simp only [Act.put,J];refine I 18 rfl ?_;simp only [Act.put,J];refine I 19 rfl ?_;simp only [Act.put,J];refine I 20 rfl ?_;simp only [Act.put,J];refine I 21 rfl ?_;simp only [Act.put,J];refine I 22 rfl ?_;simp only [Act.put,J];refine I 23 rfl ?_;simp only [Act.put,J];refine I 24 rfl ?_;simp only [Act.put,J];refine I 25 rfl ?_;simp only [Act.put,J];refine I 26 rfl ?_;simp only [Act.put,J];refine I 27 rfl ?_;simp only [Act.put,J];refine I 28 rfl ?_;simp only [Act.put,J];refine wpAnyH_done (by kernel_rfl) ?_ _;have K2:=O hHeld.1;clear hHeld
         go_wp2_with fail
         go_meet
         exact ⟨by rw [v2,v4];rfl,K2.out⟩
        ·have v4:decide (mt<t)=false:=by simpa using v3
         refine I 16 rfl ?_;simp only [Act.put,J];refine I 17 rfl ?_;simp only [Act.put,J];refine I 18 rfl ?_;simp only [Act.put,J];refine I 19 rfl ?_;simp only [Act.put,J];refine I 20 rfl ?_;simp only [Act.put,J];refine I 21 rfl ?_;simp only [Act.put,J];refine I 22 rfl ?_;simp only [Act.put,J];refine I 23 rfl ?_;simp only [Act.put,J];refine I 24 rfl ?_;simp only [Act.put,J];refine I 25 rfl ?_;simp only [Act.put,J];refine I 26 rfl ?_;simp only [Act.put,J];refine I 27 rfl ?_;simp only [Act.put,J];refine I 28 rfl ?_;simp only [Act.put,J];refine wpAnyH_done (by kernel_rfl) ?_ _;have K2:=O hHeld.1;clear hHeld
         go_wp2_with fail
         go_meet
         exact ⟨by rw [v2,v4];rfl,K2.out⟩
     obtain ⟨rfl,fwx⟩:=hcut;have K2:=O fwx;clear fwx d3 d8
     cases hbb:(!sb || (decide (t<L) || decide (mt<t)))
     ·have hch:=HCH.out
      simp only [Bool.or_eq_false_iff,decide_eq_false_iff_not,Bool.not_eq_false'] at hbb;obtain ⟨rfl,v1,v3⟩:=hbb;rw [show decide (L≤t)=true from by simp;omega,show decide (t≤mt)=true from by simp;omega,Bool.true_and,Bool.true_and,Bool.true_and] at hch;have HCH:=O hch;clear hch v1 v3;obtain ⟨d3,d8,e0,e1,e2,e3,e4,e5,e6,e7,e8,e9⟩:=HSS.out _ K2.out
      go_wp2_with fail
      go_roundw
      case rel=>exact ⟨k+1,t,by omega,by go_num,rfl,HCH.out,K2.out⟩
      case measure=>simp [intOf];omega
     ·have hY0:Y=false:=by
       rw [HCH.out]
       cases sb
       ·rfl
       ·simp only [Bool.not_true,Bool.false_or,Bool.or_eq_true,decide_eq_true_eq] at hbb
        rcases hbb with q|q
        ·rw [show decide (L≤t)=false from by simp;omega];simp
        ·rw [show decide (t≤mt)=false from by simp;omega];simp
      have HY0:=O hY0;clear hY0 hbb
      go_wp2_with fail
      go_ret
      exact ⟨au HY0.out.symm,HF0.out.ah K2.out⟩
    ·obtain rfl:k=es.length:=by omega
     have t1:decide (es.length<es.length)=false:=by simp
     rw [List.drop_length] at hch;simp only [chainB] at hch;have HCH:=O hch;clear hch
     go_wp2_with fail
     go_ret
     exact ⟨au HCH.out.symm,HF0.out.ah HF.out⟩
end
end Go.Proofs.YtjnfmfmglehmbaaGreat
