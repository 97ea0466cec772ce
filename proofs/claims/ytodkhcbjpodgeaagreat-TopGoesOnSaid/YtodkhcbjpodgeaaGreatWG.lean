/-
  The walk of TopGoesOn.
-/
import Derived.Test.YtodkhcbjpodgeaaGreatG48
import Derived.Test.YtodkhcbjpodgeaaGreatG51
namespace Go.Proofs.YtodkhcbjpodgeaaGreat
open Go.ChangeShapes Go.WideShapes Go.ChangeAt Go.RowKit
set_option linter.unusedVariables false
set_option maxRecDepth 100000
set_option maxHeartbeats 4000000
set_option linter.unusedSimpArgs false
set_option linter.unusedSectionVars false
set_option maxHeartbeats 32000000 in
theorem TopGoesOn_walk (a0:Int)(v1 v2:Value)(w:World)(w0:(Lit.int .i64 a0).wf=true)(w1:In_tst w v1)(w2:In_tst w v2):
  Calls Tryz.prog 4 #[.int .i64 a0,v1,v2] w fun e w' =>e= .returned (.bool true)∧Below w.heap.size w w' :=by
 obtain ⟨A1,len1,azi,axe,rfl,hs1⟩:=w1;obtain ⟨A2,len2,cap2,axd,rfl,hs2⟩:=w2;obtain ⟨lg,hlg⟩:∃lg:Int,lg= -1+a0 % 6:=⟨_,rfl⟩;have hl1: -1≤lg:=by have:=Int.emod_nonneg a0 (b:=6) dcd;omega
 have hl2:lg≤1000:=by have:=Int.emod_lt_of_pos a0 (b:=6) dcd;omega
 have hbt:∀W,Calls Tryz.prog 18 #[.int .i64 a0,.int .i64 (-1),.int .i64 4] W fun e w' =>e= .returned (.int .i64 lg)∧W=w' :=fun W=>by rw [hlg];exact vK a0 (-1) 4 W dcd dcd dcd
 obtain ⟨HS1,HS2,HBT⟩:=bC hs1 hs2 hbt;clear hs1 hs2 hbt hlg w0
 go_in
 go_wp2_with fail
 refine (HBT.out _).mono ?_;rintro e w' ⟨rfl,rfl⟩
 go_wp2_with fail
 refine (qR _ lg hl1 hl2).mono ?_;rintro e wa ⟨M,lab,rfl,hP,hlo,fa⟩;have HP:=O (xH.mk hP (aea hl1) hlo fa);clear hP hlo fa HBT
 go_wp2_with fail
 refine (nI _).mono ?_;rintro e wb ⟨rfl,fb⟩;have HPB:=O (HP.out.au fb);clear HP fb
 by_cases h40:len1≤40
 case neg=>
  have b1:decide ((40:Int)<(len1:Int))=true:=dtt
  go_wp2_with fail
  refine (nI _).mono ?_;rintro e w4 ⟨rfl,f4⟩
  go_wp2_with fail
  go_ret
  exact ⟨aS rfl,(HPB.out.fr.ah f4).vL⟩
 have b1:decide ((40:Int)<(len1:Int))=false:=dff
 by_cases h41:len2≤40
 case neg=>
  have b2:decide ((40:Int)<(len2:Int))=true:=dtt
  go_wp2_with fail
  refine (nI _).mono ?_;rintro e w4 ⟨rfl,f4⟩
  go_wp2_with fail
  go_ret
  exact ⟨aS rfl,(HPB.out.fr.ah f4).vL⟩
 have b2:decide ((40:Int)<(len2:Int))=false:=dff
 go_wp2_with fail
 go_loopw [8] (fun o wr=>∃(m:Nat) (P:Pr) (lab:Nat→Option Nat),m≤len1∧o= .int .i64 m∧xH w M lab P m wr∧P.e=1∧P.mc 0=(1,0,[])) (fun o _=>len1-(intOf o).toNat)
 case atStart=>exact ⟨0,_,lab,Nat.zero_le _,rfl,HPB.out,rfl,rfl⟩
 case round=>
  clear HPB b1 b2;obtain ⟨m,P,lab,hm,rfl,hP,hPe,hPm⟩:=hrel
  by_cases hlt:m<len1
  ·have b2:decide (m<len1)=true:=decide_eq_true hlt
   have b3:decide ((m:Int)<(len1:Int))=true:=dtt;obtain ⟨b,off,a,rfl,ha,hok,hc⟩:=HS1.out.at2 hlt;obtain ⟨c0,c1,c2⟩:=hc _ hP.fr;have hst:=fun V (hV:Fr No wr V)=>aaw (hP.au hV) oy a.which a.a a.b;have HST:=O hst;clear hc ha hok hP hst
   go_wp2_with fail
   refine (HST.out _ (by repeat (first|exact Fr.refl _ _|refine Fr.drew ?_))).mono ?_;rintro e w4 ⟨rfl,lab',Q,q4,e1,e2,-⟩;have Q4:=O q4;clear HST q4 b2 b3 c0 c1 c2
   go_wp2_with fail
   go_roundw
   case rel=>exact ⟨m+1,Q,lab',by omega,by go_num,Q4.out,e1.trans hPe,(congrFun e2 0).trans hPm⟩
   case measure=>simp [intOf];omega
  ·obtain rfl:m=len1:=by omega
   have b2:decide (m<m)=false:=dff;have b3:decide ((m:Int)<(m:Int))=false:=dff;obtain ⟨wo,hwo⟩:∃wo,wo=wr:=⟨_,rfl⟩;subst hwo;have aun:xH w M lab P 40 wo:=⟨hP.at_,hP.ok.more h40,hP.lo,hP.fr⟩;obtain ⟨HP,HPE⟩:=aN aun (And.intro hPe hPm);clear hP aun hPe hPm;have hall:∀V,Fr No wo V→V.cell? ⟨M.q,0,none⟩=some (.pointer (some ⟨M.hp,0,none⟩))∧V.cell? ⟨M.q,2,none⟩=some (.slice (some ⟨M.rc,0,none⟩) 2 M.cc)∧V.cell? ⟨M.q,3,none⟩=some (.slice (some ⟨M.rf,0,none⟩) 2 M.cf)∧V.cell? ⟨M.rc,0,none⟩=some (.pointer (some ⟨M.cp 0,0,none⟩))∧V.cell? ⟨M.rc,1,none⟩=some (.pointer (some ⟨M.cp 1,0,none⟩))∧V.cell? ⟨M.rf,1,none⟩=some (.pointer (some ⟨M.fp 1,0,none⟩)):=fun V hV=>by
    have A:=(HP.out.au hV).at_;exact ⟨A.blk.cell 0,A.blk.cell 2,A.blk.cell 3,A.rc.2 0 dcd,A.rc.2 1 dcd,A.rf.2 1 dcd⟩
   have aqp:=ag7;have aqo:=ag8;have hm1:M.cc≤maxLen:=HP.out.at_.caps.2.1;have hm2:M.cf≤maxLen:=HP.out.at_.caps.2.2.2.1;have hm3:2≤M.cc:=HP.out.at_.caps.1;have hm4:2≤M.cf:=HP.out.at_.caps.2.2.1;have adr:=O hall;obtain ⟨c0,c1,c2,c3,c4,c5⟩:=hall _ (Fr.refl _ _);clear hall b2 b3
   go_upto_region 10 with fail
   go_cut [9] from 59 to 91 (fun x wx=>∃q rc rf f0 rs rh,x= .pointer (some ⟨q,0,none⟩)∧an4 wo M q rc rf f0 rs rh wx)
   case first=>
    as_aux_lemma=>
    refine wp_region_held_drew (S:=(fun V=>V.cell? ⟨M.q,0,none⟩=some (.pointer (some ⟨M.hp,0,none⟩))∧V.cell? ⟨M.q,2,none⟩=some (.slice (some ⟨M.rc,0,none⟩) 2 M.cc)∧V.cell? ⟨M.q,3,none⟩=some (.slice (some ⟨M.rf,0,none⟩) 2 M.cf)∧V.cell? ⟨M.rc,0,none⟩=some (.pointer (some ⟨M.cp 0,0,none⟩))∧V.cell? ⟨M.rc,1,none⟩=some (.pointer (some ⟨M.cp 1,0,none⟩))∧V.cell? ⟨M.rf,1,none⟩=some (.pointer (some ⟨M.fp 1,0,none⟩)))) (by kernel_rfl) (adr.out _ ((Fr.refl No wo).drew)) (fun hHeld=> ?_);clear c0 c1 c2 c3 c4 c5;refine wpAnyH_take (i:=0) (v:= ?_) rfl (by kernel_rfl) (by kernel_rfl) (by kernel_rfl) (fun _ _ _ h=>h) (Or.inl ⟨by rfl,?_⟩) (by assumption) ?_
    rotate_left
    ·(intro w hSw;(try dsimp only at hSw);go_simp)<;>with_reducible rfl
    simp only [Act.put,List.setIfInBounds_toArray,List.set_cons_zero,List.set_cons_succ,List.getElem_toArray,List.getElem_cons_zero];refine wpAnyH_take (i:=1) (v:= ?_) rfl (by kernel_rfl) (by kernel_rfl) (by kernel_rfl) (fun _ _ _ h=>h) (Or.inl ⟨by rfl,?_⟩) (by assumption) ?_
    rotate_left
    ·(intro w hSw;(try dsimp only at hSw);go_simp)<;>with_reducible rfl
    simp only [Act.put,J];refine wpAnyH_take (i:=2) (v:= ?_) rfl (by kernel_rfl) (by kernel_rfl) (by kernel_rfl) (fun _ _ _ h=>h) (Or.inl ⟨by rfl,?_⟩) (by assumption) ?_
    rotate_left
    ·(intro w hSw;(try dsimp only at hSw);go_simp)<;>with_reducible rfl
    simp only [Act.put,J];refine wpAnyH_take (i:=3) (v:= ?_) rfl (by kernel_rfl) (by kernel_rfl) (by kernel_rfl) (fun _ _ _ h=>h) (Or.inl ⟨by rfl,?_⟩) (by assumption) ?_
    rotate_left
    ·(intro w hSw;(try dsimp only at hSw);go_simp)<;>with_reducible rfl
    simp only [Act.put,J];refine wpAnyH_take (i:=4) (v:= ?_) rfl (by kernel_rfl) (by kernel_rfl) (by kernel_rfl) (fun _ _ _ h=>h) (Or.inl ⟨by rfl,?_⟩) (by assumption) ?_
    rotate_left
    ·(intro w hSw;(try dsimp only at hSw);go_simp)<;>with_reducible rfl
    simp only [Act.put,J];refine wpAnyH_take (i:=5) (v:= ?_) rfl (by kernel_rfl) (by kernel_rfl) (by kernel_rfl) (fun _ _ _ h=>h) (Or.inl ⟨by rfl,?_⟩) (by assumption) ?_
    rotate_left
    ·(intro w hSw;(try dsimp only at hSw);go_simp)<;>with_reducible rfl
    simp only [Act.put,J];refine wpAnyH_take (i:=6) (v:= ?_) rfl (by kernel_rfl) (by kernel_rfl) (by kernel_rfl) (fun _ _ _ h=>h) (Or.inl ⟨by rfl,?_⟩) (by assumption) ?_
    rotate_left
    ·(intro w hSw;(try dsimp only at hSw);go_simp)<;>with_reducible rfl
    simp only [Act.put,J];refine wpAnyH_take (i:=7) (v:= ?_) rfl (by kernel_rfl) (by kernel_rfl) (by kernel_rfl) (fun _ _ _ h=>h) (Or.inl ⟨by rfl,?_⟩) (by assumption) ?_
    rotate_left
    ·(intro w hSw;(try dsimp only at hSw);go_simp)<;>with_reducible rfl
    simp only [Act.put,J];refine wpAnyH_take (i:=8) (v:= ?_) rfl (by kernel_rfl) (by kernel_rfl) (by kernel_rfl) (fun _ _ _ h=>h) (Or.inl ⟨by rfl,?_⟩) (by assumption) ?_
    rotate_left
    ·(intro w hSw;(try dsimp only at hSw);go_simp)<;>with_reducible rfl
    simp only [Act.put,J];refine wpAnyH_take (i:=9) (v:= ?_) rfl (by kernel_rfl) (by kernel_rfl) (by kernel_rfl) (fun _ _ _ h=>h) (Or.inl ⟨by rfl,?_⟩) (by assumption) ?_
    rotate_left
    ·(intro w hSw;(try dsimp only at hSw);go_simp)<;>with_reducible rfl
    simp only [Act.put,J];refine wpAnyH_take (i:=10) (v:= ?_) rfl (by kernel_rfl) (by kernel_rfl) (by kernel_rfl) (fun _ _ _ h=>h) (Or.inl ⟨by rfl,?_⟩) (by assumption) ?_
    rotate_left
    ·(intro w hSw;(try dsimp only at hSw);go_simp)<;>with_reducible rfl
    simp only [Act.put,J];refine wpAnyH_take (i:=11) (v:= ?_) rfl (by kernel_rfl) (by kernel_rfl) (by kernel_rfl) (fun _ _ _ h=>h) (Or.inl ⟨by rfl,?_⟩) (by assumption) ?_
    rotate_left
    ·(intro w hSw;(try dsimp only at hSw);go_simp)<;>with_reducible rfl
    simp only [Act.put,J];refine wpAnyH_take (i:=12) (v:= ?_) rfl (by kernel_rfl) (by kernel_rfl) (by kernel_rfl) (fun _ _ _ h=>h) (Or.inl ⟨by rfl,?_⟩) (by assumption) ?_
    rotate_left
    ·(intro w hSw;(try dsimp only at hSw);go_simp)<;>with_reducible rfl
    simp only [Act.put,J];refine wpAnyH_take (i:=13) (v:= ?_) rfl (by kernel_rfl) (by kernel_rfl) (by kernel_rfl) (fun _ _ _ h=>h) (Or.inl ⟨by rfl,?_⟩) (by assumption) ?_
    rotate_left
    ·(intro w hSw;(try dsimp only at hSw);go_simp)<;>with_reducible rfl
    simp only [Act.put,J];refine wpAnyH_take (i:=14) (v:= ?_) rfl (by kernel_rfl) (by kernel_rfl) (by kernel_rfl) (fun _ _ _ h=>h) (Or.inl ⟨by rfl,?_⟩) (by assumption) ?_
    rotate_left
    ·(intro w hSw;(try dsimp only at hSw);go_simp)<;>with_reducible rfl
    simp only [Act.put,J];refine wpAnyH_take (i:=15) (v:= ?_) rfl (by kernel_rfl) (by kernel_rfl) (by kernel_rfl) (fun _ _ _ h=>h) (Or.inl ⟨by rfl,?_⟩) (by assumption) ?_
    rotate_left
    ·(intro w hSw;(try dsimp only at hSw);go_simp)<;>with_reducible rfl
    simp only [Act.put,J];refine wpAnyH_take (i:=17) (v:= ?_) rfl (by kernel_rfl) (by kernel_rfl) (by kernel_rfl) (fun _ _ _ h=>h) (Or.inl ⟨by rfl,?_⟩) (by assumption) ?_
    rotate_left
    ·(intro w hSw;(try dsimp only at hSw);go_simp)<;>with_reducible rfl
    simp only [Act.put,J];refine wpAnyH_take (i:=18) (v:= ?_) rfl (by kernel_rfl) (by kernel_rfl) (by kernel_rfl) (fun _ _ _ h=>h) (Or.inl ⟨by rfl,?_⟩) (by assumption) ?_
    rotate_left
    ·(intro w hSw;(try dsimp only at hSw);go_simp)<;>with_reducible rfl
    simp only [Act.put,J];refine wpAnyH_take (i:=19) (v:= ?_) rfl (by kernel_rfl) (by kernel_rfl) (by kernel_rfl) (fun _ _ _ h=>h) (Or.inl ⟨by rfl,?_⟩) (by assumption) ?_
    rotate_left
    ·(intro w hSw;(try dsimp only at hSw);go_simp)<;>with_reducible rfl
    simp only [Act.put,J];refine wpAnyH_take (i:=20) (v:= ?_) rfl (by kernel_rfl) (by kernel_rfl) (by kernel_rfl) (fun _ _ _ h=>h) (Or.inl ⟨by rfl,?_⟩) (by assumption) ?_
    rotate_left
    ·(intro w hSw;(try dsimp only at hSw);go_simp)<;>with_reducible rfl
    simp only [Act.put,J];refine wpAnyH_take (i:=22) (v:= ?_) rfl (by kernel_rfl) (by kernel_rfl) (by kernel_rfl) (fun _ _ _ h=>h) (Or.inl ⟨by rfl,?_⟩) (by assumption) ?_
    rotate_left
    ·(intro w hSw;(try dsimp only at hSw);go_simp)<;>with_reducible rfl
    simp only [Act.put,J];refine wpAnyH_take (i:=23) (v:= ?_) rfl (by kernel_rfl) (by kernel_rfl) (by kernel_rfl) (fun _ _ _ h=>h) (Or.inl ⟨by rfl,?_⟩) (by assumption) ?_
    rotate_left
    ·(intro w hSw;(try dsimp only at hSw);go_simp)<;>with_reducible rfl
    simp only [Act.put,J];refine wpAnyH_take (i:=24) (v:= ?_) rfl (by kernel_rfl) (by kernel_rfl) (by kernel_rfl) (fun _ _ _ h=>h) (Or.inl ⟨by rfl,?_⟩) (by assumption) ?_
    rotate_left
    ·(intro w hSw;(try dsimp only at hSw);go_simp)<;>with_reducible rfl
    simp only [Act.put,J];refine wpAnyH_take (i:=25) (v:= ?_) rfl (by kernel_rfl) (by kernel_rfl) (by kernel_rfl) (fun _ _ _ h=>h) (Or.inl ⟨by rfl,?_⟩) (by assumption) ?_
    rotate_left
    ·(intro w hSw;(try dsimp only at hSw);go_simp)<;>with_reducible rfl
    simp only [Act.put,J];refine wpAnyH_take (i:=26) (v:= ?_) rfl (by kernel_rfl) (by kernel_rfl) (by kernel_rfl) (fun _ _ _ h=>h) (Or.inl ⟨by rfl,?_⟩) (by assumption) ?_
    rotate_left
    ·(intro w hSw;(try dsimp only at hSw);go_simp)<;>with_reducible rfl
    simp only [Act.put,J];refine wpAnyH_take (i:=27) (v:= ?_) rfl (by kernel_rfl) (by kernel_rfl) (by kernel_rfl) (fun _ _ _ h=>h) (Or.inl ⟨by rfl,?_⟩) (by assumption) ?_
    rotate_left
    ·(intro w hSw;(try dsimp only at hSw);go_simp)<;>with_reducible rfl
    simp only [Act.put,J];refine pK [16,21,28,29,30] (fun i=>i+59) (fun i=>if i=28 then [21] else []) (zF wo M) 3 dcd dcd (fun i v w w' h f=>h.mono f) ?_ (fun w f=>adr.out w f) ?_ ?_ _ ((Fr.refl No wo).drew)
    ·intro D hD hDc
     have hc28:D 28=true→D 21=true:=fun h=>hDc 28 (by simp) h 21 (by simp);have h2:∀i,((i == 16 && !D 16) || (i == 21 && !D 21) || (i == 28 && D 21 && !D 28) || (i == 29 && !D 29) || (i == 30 && !D 30))=true→i∈[16,21,28,29,30]∧D i=false∧∀j∈(if i=28 then [21] else []),D j=true:=by
      intro i hi;simp only [Bool.or_eq_true,Bool.and_eq_true,beq_iff_eq,Bool.not_eq_true'] at hi
      rcases hi with (((⟨rfl,h⟩|⟨rfl,h⟩)|⟨⟨rfl,h⟩,h'⟩)|⟨rfl,h⟩)|⟨rfl,h⟩
      ·exact ⟨by simp,h,fun j hj=>by simp at hj⟩
      ·exact ⟨by simp,h,fun j hj=>by simp at hj⟩
      ·exact ⟨by simp,h',fun j hj=>by simp at hj;subst hj;exact h⟩
      ·exact ⟨by simp,h,fun j hj=>by simp at hj⟩
      ·exact ⟨by simp,h,fun j hj=>by simp at hj⟩
     refine alh (fun i=>(i == 16 && !D 16) || (i == 21 && !D 21) || (i == 28 && D 21 && !D 28) || (i == 29 && !D 29) || (i == 30 && !D 30)) ?_ h2;clear h2;have hD' :D 16=false∨D 21=false∨D 28=false∨D 29=false∨D 30=false:=by
      obtain ⟨i,hi,h⟩:=hD;simp only [List.mem_cons,List.not_mem_nil,or_false] at hi
      rcases hi with rfl|rfl|rfl|rfl|rfl<;>simp [h]
     simp only [cL];generalize D 16=b0 at hD' hc28 ⊢;generalize D 21=b1 at hD' hc28 ⊢;generalize D 28=b2 at hD' hc28 ⊢;generalize D 29=b3 at hD' hc28 ⊢;generalize D 30=b4 at hD' hc28 ⊢;clear hD hDc adr HP HPE HS1 HS2
     cases b0<;>cases b1<;>cases b2<;>cases b3<;>cases b4
     all_goals first
      |exact absurd hD' dcd
      |exact absurd hc28 dcd
      |(refine Eq.trans (b:=true) ?_ rfl;kernel_rfl)
    ·intro i hi D u w aoz hf hu K hK
     simp only [List.mem_cons,List.not_mem_nil,or_false] at hi;have hsz:=hf.size
     rcases hi with rfl|rfl|rfl|rfl|rfl
     ·refine jS rfl rfl (aem w rfl ((kV 68 _ _ dcd).trans rfl) ((kV 74 _ _ dcd).trans rfl)) (hK _ _ (aj _ _) ?_)
      unfold zF;rw [if_pos rfl];exact ⟨_,rfl,hsz,Blk.new _ _ _⟩
     ·refine zL rfl rfl (aeh w rfl ((kV 79 _ _ dcd).trans rfl) rfl) ?_
      refine (oF _ _).mono ?_;rintro e w' ⟨f,rfl,bf,hf0,FN⟩;refine ⟨_,rfl,hK _ _ FN ?_⟩;unfold zF;rw [if_neg dcd,if_pos rfl];exact ⟨f,rfl,Nat.le_trans hsz hf0,bf⟩
     ·have d21:D 21=true:=aoz 21 (by simp)
      have h21:=hu 21 (by simp) d21;unfold zF at h21;rw [if_neg dcd,if_pos rfl] at h21;obtain ⟨g,e21,k1,k2⟩:=h21;refine jS rfl rfl (ael w rfl ((nE (dst:=fun i=>i+59) 21 _ _ dcd (by simp) dcd d21 (by exact (show 80<263 from by decide))).trans e21) ((kV 86 _ _ dcd).trans rfl)) (hK _ _ (aj _ _) ?_);unfold zF;rw [if_neg dcd,if_neg dcd,if_pos rfl];exact ⟨_,g,rfl,hsz,k1,Blk.new _ _ _,k2.fr (aj _ _) id⟩
     ·refine jS rfl rfl (aej w rfl (fun _=>rfl)) (hK _ _ (aj _ _) ?_)
      unfold zF;rw [if_neg dcd,if_neg dcd,if_neg dcd,if_pos rfl];exact ⟨_,rfl,hsz,Blk.new _ _ _⟩
     ·refine jS rfl rfl (aei w rfl (fun _=>rfl)) (hK _ _ (aj _ _) ?_)
      unfold zF;rw [if_neg dcd,if_neg dcd,if_neg dcd,if_neg dcd];exact ⟨_,rfl,hsz,Blk.new _ _ _⟩
    ·intro u w hf hu
     have h16:=hu 16 (by simp);have h21:=hu 21 (by simp);have h28:=hu 28 (by simp);have h29:=hu 29 (by simp);have h30:=hu 30 (by simp);unfold zF at h16 h21 h28 h29 h30;rw [if_pos rfl] at h16;rw [if_neg dcd,if_pos rfl] at h21;rw [if_neg dcd,if_neg dcd,if_pos rfl] at h28;rw [if_neg dcd,if_neg dcd,if_neg dcd,if_pos rfl] at h29;rw [if_neg dcd,if_neg dcd,if_neg dcd,if_neg dcd] at h30;obtain ⟨rc,e16,n2,brc⟩:=h16;obtain ⟨f1,e21,n7,bf1⟩:=h21;obtain ⟨rf,f0,e28,n3,n4,brf,bf0⟩:=h28;obtain ⟨rs,e29,n5,brs⟩:=h29;obtain ⟨rh,e30,n6,brh⟩:=h30;have hsz:=hf.size;have HLT:=O (And.intro brc (And.intro brf (And.intro bf0 (And.intro brs brh))));clear hu bf1 brc brf bf0 brs brh hHeld;have hHeld:=adr.out w hf;simp only [cL,cA,if_true,Nat.reduceAdd,e16,e21,e28,e29,e30];simp only [Act.put,J];refine wpAnyH_take (i:=31) (v:= ?_) rfl (by kernel_rfl) (by kernel_rfl) (by kernel_rfl) (fun _ _ _ h=>h) (Or.inl ⟨by rfl,?_⟩) (by assumption) ?_
     rotate_left
     ·(intro w hSw;(try dsimp only at hSw);go_simp)<;>with_reducible rfl
     simp only [Act.put,J];clear hHeld;refine wpAnyH_all (rs:=[32]) (by kernel_rfl) (by simp) (fun i hi=> ?_);obtain rfl:i=32:=by simpa using hi
     have hHeld:=adr.out _ (hf.alloc (.cells #[.pointer (some ⟨M.cp 0,0,none⟩),.pointer none,.slice (some ⟨rc,0,none⟩) 2 2,.slice (some ⟨rf,0,none⟩) 2 2,.slice (some ⟨rs,0,none⟩) 2 2,.slice (some ⟨rh,0,none⟩) 2 2,.int .i64 0,.int .i64 0,.int .i64 0,.int .i64 0,.int .i64 0] fU));refine jS rfl rfl (aen w rfl rfl) ⟨hHeld,?_⟩;simp only [Act.put,J];refine wpAnyH_take (i:=33) (v:= ?_) rfl (by kernel_rfl) (by kernel_rfl) (by kernel_rfl) (fun _ _ _ h=>h) (Or.inl ⟨by rfl,?_⟩) (by assumption) ?_
     rotate_left
     ·(intro w hSw;(try dsimp only at hSw);go_simp)<;>with_reducible rfl
     simp only [Act.put,J];refine wpAnyH_done (by kernel_rfl) ?_ _;obtain ⟨brc,brf,bf0,brs,brh⟩:=HLT.out;have fa:=aj w (.cells #[.pointer (some ⟨M.cp 0,0,none⟩),.pointer none,.slice (some ⟨rc,0,none⟩) 2 2,.slice (some ⟨rf,0,none⟩) 2 2,.slice (some ⟨rs,0,none⟩) 2 2,.slice (some ⟨rh,0,none⟩) 2 2,.int .i64 0,.int .i64 0,.int .i64 0,.int .i64 0,.int .i64 0] fU);have hfin:an4 wo M w.heap.size rc rf f0 rs rh (w.alloc (.cells #[.pointer (some ⟨M.cp 0,0,none⟩),.pointer none,.slice (some ⟨rc,0,none⟩) 2 2,.slice (some ⟨rf,0,none⟩) 2 2,.slice (some ⟨rs,0,none⟩) 2 2,.slice (some ⟨rh,0,none⟩) 2 2,.int .i64 0,.int .i64 0,.int .i64 0,.int .i64 0,.int .i64 0] fU)):=⟨hsz,n2,n3,n4,n5,n6,Blk.new _ _ _,brc.fr fa id,brf.fr fa id,bf0.fr fa id,brs.fr fa id,brh.fr fa id,hf.ah fa⟩
     go_wp2_with fail
     go_meet
     exact ⟨_,rc,rf,f0,rs,rh,rfl,hfin⟩
   clear c0 c1 c2 c3 c4 c5 adr aqp aqo hm1 hm2 hm3 hm4;obtain ⟨q,rc,rf,f0,rs,rh,rfl,hlit⟩:=hcut;generalize wc=v at*;obtain ⟨n1,n2,n3,n4,n5,n6,bq,brc,brf,bf0,brs,brh,fl⟩:=hlit;have A:=HP.out.at_.still fl;have hqv:=bq.lt;have hqw:=A.blk.lt;have hlen:(P.fo 0).c.h.length≤40:=(HP.out.ok.fl 0 dcd).2.2.1;have hack:=HP.out.ok.ahr;have hacq:∀V,Fr No v V→V.cell? ⟨M.q,10,none⟩=some (.int .i64 P.dS)∧V.cell? ⟨q,0,none⟩=some (.pointer (some ⟨M.cp 0,0,none⟩)):=fun V hV=>⟨(A.still hV).blk.cell 10,(bq.fr hV id).cell 0⟩;have am3:=fun V (hV:Fr No v V)=>bQ ((A.still hV).fo 0 dcd);have hnl:=fun (V:World) (hV:Fr No v V) (x:Int) (hx:x=min P.dS ((P.fo 0).c.h.length:Int))=>mQ V 2 (-1) x dcd dcd dcd dcd oy oy;obtain ⟨c0,c1⟩:=hacq _ (Fr.refl _ _);obtain ⟨BQ,BRC,BRF,BF0,BRS,BRH,FL,AV,avk,HCL,HNL⟩:=kP bq brc brf bf0 brs brh fl A hacq am3 hnl;obtain ⟨L,hL⟩:∃L,L=(P.fo 0).c.h.length:=⟨_,rfl⟩;rw [←hL] at hlen HCL HNL;have HL:=O hL;clear bq brc brf bf0 brs brh fl A hacq am3 hnl hL
   go_upto_region 11 with fail
   go_region_held3 (fun V=>V.cell? ⟨M.q,10,none⟩=some (.int .i64 P.dS)∧V.cell? ⟨q,0,none⟩=some (.pointer (some ⟨M.cp 0,0,none⟩))) ((refine avk.out _ ?_;exact (by repeat (with_reducible first|assumption|exact Fr.refl _ _|refine Fr.alloc ?_ _|refine Fr.drew ?_|refine Fr.drewN ?_ _|refine Fr.setCell ?_ (.inr (by assumption)) _)))) (first
    |(go_at_call 16;refine (HCL.out _ (by repeat (with_reducible first|assumption|exact Fr.refl _ _|refine Fr.alloc ?_ _|refine Fr.drew ?_|refine Fr.drewN ?_ _|refine Fr.setCell ?_ (.inr (by assumption)) _))).mono ?_;rintro e w' ⟨rfl,rfl⟩)
    |(go_at_call 22;refine (HNL.out _ (by repeat (with_reducible first|assumption|exact Fr.refl _ _|refine Fr.alloc ?_ _|refine Fr.drew ?_|refine Fr.drewN ?_ _|refine Fr.setCell ?_ (.inr (by assumption)) _)) _ rfl).mono ?_;rintro e v3 ⟨l,rfl,hL3,fL3⟩;have f3:Fr No v v3:=Fr.ah (by repeat (with_reducible first|assumption|exact Fr.refl _ _|refine Fr.alloc ?_ _|refine Fr.drew ?_|refine Fr.drewN ?_ _|refine Fr.setCell ?_ (.inr (by assumption)) _)) fL3;have LD:=O (hL3.strict.mono (G:=fun i=>v.heap.size≤i∧i<v3.heap.size) (fun i hi=>hi));clear hL3 fL3))
   clear c0 c1 HNL avk HCL;have F3:=O f3;obtain ⟨m1,m2,m3⟩:=HP.out.ok.mt 0 dcd;rw [HPE.out.2] at m1 m2 m3;obtain ⟨gg,hgg,-⟩:=((AV.out.still f3).fo 0 dcd).gated;have hgv:=qp ((AV.out.still f3).fo 0 dcd) hgg m3 ⟨1,2,0,0,1000⟩ dcd m1.symm (by rw [m2];decide);have HGV:=O hgv;have hcf:v3.cell? ⟨q,0,none⟩=some (.pointer (some ⟨M.cp 0,0,none⟩))∧v3.cell? ⟨q,3,none⟩=some (.slice (some ⟨rf,0,none⟩) 2 2)∧v3.cell? ⟨rf,0,none⟩=some (.pointer (some ⟨f0,0,none⟩)):=⟨(BQ.out.fr f3 id).cell 0,(BQ.out.fr f3 id).cell 3,(BRF.out.fr f3 id).cell 0⟩;obtain ⟨c0,c3,d0⟩:=hcf;have hq3:q<v3.heap.size:=nll hqv f3.size;clear hgv f3
   go_wp2_with fail
   refine (gG hgg).mono ?_;rintro e w5 ⟨rfl,hw5⟩;have hw6:=hw5.symm;subst hw6
   go_wp2_with fail
   refine (gG hgg).mono ?_;rintro e w5 ⟨rfl,hw5⟩;have hw6:=hw5.symm;subst hw6
   go_wp2_with fail
   refine HGV.out.mono ?_;rintro e v4 ⟨rfl,hto⟩;obtain ⟨F',hc4,hs4,f4⟩:=hto;have hql:∀i,v.heap.size≤i∨i=q∨i=rc∨i=rf∨i=f0∨i=rs∨i=rh→¬aT lab 10 i:=fun i hi hb=>by
    have:=HP.out.at_.lt i 10 hb;have:=FL.out.size
    rcases hi with h|h|h|h|h|h|h<;>omega
   have ao1:=((BQ.out.fr F3.out id).fr f4 (hql q (by simp)));obtain ⟨e0,e1,e2,e3,e4,e5,e6,e7,e8,e9,e10⟩:=aP ao1;have z1:=ao1.frozen 1;obtain ⟨BQ4,HQL,HC4,HS4,F4⟩:=jq ao1 hql hc4 hs4 f4;clear ao1 hql hc4 hs4 f4 c0 c3 d0 hgg HGV
   go_upto_region 15 with fail
   have f5:Fr (fun i=>i=q) v4 (v4.setCell ⟨q,1,none⟩ (.pointer (some ⟨l,0,none⟩))):=(Fr.refl (fun i=>i=q) v4).setCell (p:=⟨q,1,none⟩) (.inl rfl) _;have b5:Blk (v4.setCell ⟨q,1,none⟩ (.pointer (some ⟨l,0,none⟩))) q fU #[pp (M.cp 0),pp l,.slice (some ⟨rc,0,none⟩) 2 2,.slice (some ⟨rf,0,none⟩) 2 2,.slice (some ⟨rs,0,none⟩) 2 2,.slice (some ⟨rh,0,none⟩) 2 2,.int .i64 0,.int .i64 0,.int .i64 0,.int .i64 0,.int .i64 0]:=Blk.cv (BQ4.out.aC 1 _) (by simp [pp]);generalize v4.setCell ⟨q,1,none⟩ (.pointer (some ⟨l,0,none⟩))=W5 at f5 b5 ⊢;have hFq:∀i,F' i→i≠q:=fun i hi e=>by
    rcases HS4.out i hi with h|h
    ·exact HQL.out i (.inr (.inl e)) h
    ·omega
   have hc5:=HC4.out.fr f5 (fun i hi e=>hFq i hi e);have ld5:=(LD.out.fr F4.out (fun i hi=>HQL.out i (.inl hi.1))).fr f5 (fun i hi e=>by have:=hi.1;omega);obtain ⟨c0,-⟩:=aP b5;have hq5:q<W5.heap.size:=b5.lt;obtain ⟨ss,hss⟩:∃ss,ss=(P.fo 0).c.nw.ss:=⟨_,rfl⟩;have hs8:=(HP.out.ok.fl 0 dcd).1.ok.ss8;rw [←hss] at hs8;obtain ⟨s0,s1,s2,s3,s4,s5,s6,s7,rfl⟩:∃s0 s1 s2 s3 s4 s5 s6 s7,ss=[s0,s1,s2,s3,s4,s5,s6,s7]:=by
    match ss,hs8 with
    |[a,b,c,d,e,f,g,h],_=>exact ⟨a,b,c,d,e,f,g,h,rfl⟩
   have hls:=zk hc5;simp only at hls;rw [←hss] at hls;obtain ⟨HSS,HC5,LD5,B5,F5,HFQ,HLS⟩:=jo hss hc5 ld5 b5 f5 hFq hls;clear e0 e1 e2 e3 e4 e5 e6 e7 e8 e9 e10 z1 hss hc5 ld5 b5 f5 hFq hls hs8 LD BQ4;simp only [pp] at c0
   go_wp2_with fail
   refine HLS.out.mono ?_;rintro e v6 ⟨A8,c8,rfl,o8,f8⟩;obtain ⟨b8,rfl,hb8,hg8,hc8⟩:=o8.head dcd;obtain ⟨hn8,hm8⟩:=o8.cap;have aua:v6.cell? ⟨b8,0,none⟩=some (.int .i64 s0.nm)∧v6.cell? ⟨b8,1,none⟩=some (.int .i64 s1.nm)∧v6.cell? ⟨b8,2,none⟩=some (.int .i64 s2.nm)∧v6.cell? ⟨b8,3,none⟩=some (.int .i64 s3.nm):=⟨hc8 0 (by simp [adk]),hc8 1 (by simp [adk]),hc8 2 (by simp [adk]),hc8 3 (by simp [adk])⟩;obtain ⟨HC8,F8⟩:=aN aua f8;have b6:=B5.out.fr f8 id;have hbq:b8≠q:=by omega
   clear o8 hc8 aua c0 f8 HLS hg8
   go_wp2_with fail
   go_loopw [13] (fun o X=>∃k:Nat,k≤4∧o= .int .i64 k∧Blk X q fU #[pp (M.cp 0),pp l,.slice (some ⟨rc,0,none⟩) 2 2,.slice (some ⟨rf,0,none⟩) 2 2,.slice (some ⟨rs,0,none⟩) 2 2,.slice (some ⟨rh,0,none⟩) 2 2,.int .i64 (if 0<k then s0.nm else 0),.int .i64 (if 1<k then s1.nm else 0),.int .i64 (if 2<k then s2.nm else 0),.int .i64 (if 3<k then s3.nm else 0),.int .i64 0]∧Fr (fun i=>i=q) v6 X) (fun o _=>4-(intOf o).toNat)
   case atStart=>exact ⟨0,by decide,rfl,b6,Fr.refl _ _⟩
   case round=>
    clear b6;obtain ⟨k,hk,rfl,hbk,hfk⟩:=hrel;obtain rfl|rfl|rfl|rfl|rfl:k=0∨k=1∨k=2∨k=3∨k=4:=by omega
    ·have z6:=hbk.frozen 6
     have c6:=hbk.cell 6;simp only [List.getElem?_toArray,List.getElem?_cons_zero,List.getElem?_cons_succ] at c6;have c8:=(hfk.cell (p:=⟨b8,0,none⟩) hb8 hbq).trans HC8.out.1;have hbl:b8<wr.heap.size:=nll hb8 hfk.size;have hql:q<wr.heap.size:=hbk.lt;obtain ⟨HBK,HFK⟩:=aN hbk hfk;clear hbk hfk
     go_upto_region 19 with fail
     go_region
     all_goals
      have hb7:=HBK.out.aC 6 (.int .i64 s0.nm);have hf7:=HFK.out.setCell (p:=⟨q,6,none⟩) (.inl rfl) (.int .i64 s0.nm)
      go_wp2_with fail
      go_roundw
      case rel=>exact ⟨1,by decide,rfl,Blk.cv hb7 (by simp),hf7.drew⟩
      case measure=>simp [intOf]
    ·have z6:=hbk.frozen 7
     have c6:=hbk.cell 7;simp only [List.getElem?_toArray,List.getElem?_cons_zero,List.getElem?_cons_succ] at c6;have c8:=(hfk.cell (p:=⟨b8,1,none⟩) hb8 hbq).trans HC8.out.2.1;have hbl:b8<wr.heap.size:=nll hb8 hfk.size;have hql:q<wr.heap.size:=hbk.lt;obtain ⟨HBK,HFK⟩:=aN hbk hfk;clear hbk hfk
     go_upto_region 19 with fail
     go_region
     all_goals
      have hb7:=HBK.out.aC 7 (.int .i64 s1.nm);have hf7:=HFK.out.setCell (p:=⟨q,7,none⟩) (.inl rfl) (.int .i64 s1.nm)
      go_wp2_with fail
      go_roundw
      case rel=>exact ⟨2,by decide,rfl,Blk.cv hb7 (by simp),hf7.drew⟩
      case measure=>simp [intOf]
    ·have z6:=hbk.frozen 8
     have c6:=hbk.cell 8;simp only [List.getElem?_toArray,List.getElem?_cons_zero,List.getElem?_cons_succ] at c6;have c8:=(hfk.cell (p:=⟨b8,2,none⟩) hb8 hbq).trans HC8.out.2.2.1;have hbl:b8<wr.heap.size:=nll hb8 hfk.size;have hql:q<wr.heap.size:=hbk.lt;obtain ⟨HBK,HFK⟩:=aN hbk hfk;clear hbk hfk
     go_upto_region 19 with fail
     go_region
     all_goals
      have hb7:=HBK.out.aC 8 (.int .i64 s2.nm);have hf7:=HFK.out.setCell (p:=⟨q,8,none⟩) (.inl rfl) (.int .i64 s2.nm)
      go_wp2_with fail
      go_roundw
      case rel=>exact ⟨3,by decide,rfl,Blk.cv hb7 (by simp),hf7.drew⟩
      case measure=>simp [intOf]
    ·have z6:=hbk.frozen 9
     have c6:=hbk.cell 9;simp only [List.getElem?_toArray,List.getElem?_cons_zero,List.getElem?_cons_succ] at c6;have c8:=(hfk.cell (p:=⟨b8,3,none⟩) hb8 hbq).trans HC8.out.2.2.2;have hbl:b8<wr.heap.size:=nll hb8 hfk.size;have hql:q<wr.heap.size:=hbk.lt;obtain ⟨HBK,HFK⟩:=aN hbk hfk;clear hbk hfk
     go_upto_region 19 with fail
     go_region
     all_goals
      have hb7:=HBK.out.aC 9 (.int .i64 s3.nm);have hf7:=HFK.out.setCell (p:=⟨q,9,none⟩) (.inl rfl) (.int .i64 s3.nm)
      go_wp2_with fail
      go_roundw
      case rel=>exact ⟨4,by decide,rfl,Blk.cv hb7 (by simp),hf7.drew⟩
      case measure=>simp [intOf]
    simp only [show (0<4)=True from by decide,show (1<4)=True from by decide,show (2<4)=True from by decide,show (3<4)=True from by decide,if_true] at hbk;obtain ⟨X,hX⟩:∃X,X=wr:=⟨_,rfl⟩;subst hX;have hcX:aM X F' (M.cp 0) {(P.fo 0).c with ws:=[⟨1,2,0,0,1000⟩]}:=(HC5.out.au F8.out).fr hfk (fun i hi e=>HFQ.out i hi e);have ldX:=(LD5.out.fr F8.out (fun _ _ h=>h)).fr hfk (fun i hi e=>by have:=hi.1;omega);have aw3:(L:Int)≤40:=by omega
    obtain ⟨mX,lX1,lX2,lX3,lX4,lX5⟩:=ldX.parts;have hz0:Maps.size ((DataW.map []).put (kI 1) (pgD ⟨false,0,(L:Int)⟩))≤0+1:=(jG (lX5 _ (Fr.refl _ _)).2 _ _).1;have atf:=ldX.isMap;have hh2:Maps.has ((DataW.map []).put (kI 1) (pgD ⟨false,0,(L:Int)⟩)) (kI 2)=false:=by rw [Maps.has_put_other (al9 dcd)];rfl
    have am9:=qj ldX 1 (L:Int) false dcd dcd oy oy rfl dcd;have hlen1:=bQ hcX;have abz:∀i,(v.heap.size≤i∧i<v3.heap.size)→¬F' i∧i≠q:=fun i hi=>⟨fun hF=>by
     rcases HS4.out i hF with h|h
     ·exact HQL.out i (.inl hi.1) h
     ·omega,by omega⟩
    simp only at hlen1;rw [←HL.out] at hlen1;have hX0:=hbk.cell 0;simp only [List.getElem?_toArray,List.getElem?_cons_zero,List.getElem?_cons_succ,pp] at hX0;have hqX:q<X.heap.size:=hbk.lt;obtain ⟨HCX,HBK,HFK,HA1,HLE,HRG,HZ0,HH2,HIM⟩:=akp hcX hbk hfk am9 hlen1 abz hz0 hh2 atf;clear hcX ldX lX1 lX2 lX3 lX4 lX5 hz0 hh2 am9 hlen1 hbk hfk abz atf
    go_wp2_with fail
    refine HLE.out.mono ?_;rintro e w5 ⟨rfl,hw5⟩;have hw6:=hw5.symm;subst hw6
    go_wp2_with fail
    refine HA1.out.mono ?_;rintro e v7 ⟨rfl,hl7,f7⟩;have hc7:=HCX.out.fr f7 (fun i hi hg=>(HRG.out i hg).1 hi);have hb7:=HBK.out.fr f7 (fun hg=>(HRG.out _ hg).2 rfl);have afm:=bQ hc7;simp only at afm;rw [←HL.out] at afm;have am8:=qj hl7 2 (L:Int) false dcd dcd oy oy HH2.out (by have:=HZ0.out;omega);have h70:=hb7.cell 0;simp only [List.getElem?_toArray,List.getElem?_cons_zero,List.getElem?_cons_succ,pp] at h70;have hq7:q<v7.heap.size:=hb7.lt;have avd:=O hl7.isMap;obtain ⟨HC7,HB7,F7,avb,HA2⟩:=jq hc7 hb7 f7 afm am8;clear hX0 hl7 f7 hc7 hb7 afm am8
    go_wp2_with fail
    refine avb.out.mono ?_;rintro e w5 ⟨rfl,hw5⟩;have hw6:=hw5.symm;subst hw6
    go_wp2_with fail
    refine HA2.out.mono ?_;rintro e v8 ⟨rfl,hl8,f8⟩;have hc8:=HC7.out.fr f8 (fun i hi hg=>(HRG.out i hg).1 hi);have aue :=HB7.out.fr f8 (fun hg=>(HRG.out _ hg).2 rfl);have y1:=FL.out.size;have y2:=F3.out.size;have y3:=F4.out.size;have y4:=F5.out.size;have y5:=F8.out.size;have y6:=HFK.out.size;have y7:=F7.out.size;have y8:=f8.size;have fW:Fr (aT lab 10) wo v8:=((((((((FL.out.ah F3.out).mono (G:=aT lab 10) fun _ h=>h.elim).trans F4.out fun i hi=> .inl hi).trans F5.out fun i hi=> .inr oy).trans F8.out fun _ h=>h.elim).trans HFK.out fun i hi=> .inr oy).trans F7.out fun i hi=> .inr oy).trans f8 fun i hi=> .inr oy);have amm:zC (((DataW.map []).put (kI 1) (pgD ⟨false,0,(L:Int)⟩)).put (kI 2) (pgD ⟨false,0,(L:Int)⟩)) (je P).pg:=by
     have r2:=(wu.put HIM.out (i:=0) dcd ⟨false,0,(L:Int)⟩).put avd.out (i:=1) dcd ⟨false,0,(L:Int)⟩;intro i hi;have:=r2 i hi;have e:(je P).pg i=some ⟨false,0,(L:Int)⟩:=by rw [HL.out];rfl
     rw [e];obtain rfl|rfl:i=0∨i=1:=by omega
     ·exact this
     ·exact this
    have hkeep:∀(g:Nat) (t:TypeId) (cs:Array Value),wo.heap.size≤g→g<v.heap.size→t≠fU→Blk v g t cs→Blk v8 g t cs:=fun g t cs h1 h2 h3 hb=>by
     have k1:=hb.fr F3.out id;have k2:=k1.fr F4.out (fun h=>by have:=HP.out.at_.lt g 10 h;omega);have k4:=k2.fr F5.out (fun e=>by
      have:=fO k2 (BQ.out.fr F3.out id|>.fr F4.out (HQL.out q (by simp))) h3;exact this e)
     have k5:=k4.fr F8.out id;have k6:=k5.fr HFK.out (fun e=>by
      have:=fO k4 B5.out h3;exact this e)
     exact (k6.fr F7.out (fun h=>by omega)).fr f8 (fun h=>by omega)
    obtain ⟨dW,hP2,hlo2⟩:=ace HP.out.at_ (l:=l) (n1:=v.heap.size) (n2:=v3.heap.size) (n3:=v4.heap.size) (H:=F') fW ⟨n1,hqv⟩ ⟨n2,BRC.out.lt⟩ ⟨n3,BRF.out.lt⟩ ⟨n4,BF0.out.lt⟩ ⟨n5,BRS.out.lt⟩ ⟨n6,BRH.out.lt⟩ y2 y3 oy
     (fun i hi=>(HS4.out i hi).imp id (fun h=>⟨h,HC4.out.lt i hi⟩)) (Blk.cv aue (by simp [prC,za,je,pp,←HSS.out])) hc8 (by rw [show (je P).ak=min P.dS (L:Int) from by rw [HL.out];rfl];exact hl8) amm
     (hkeep _ _ _ n2 BRC.out.lt dcd BRC.out) (hkeep _ _ _ n3 BRF.out.lt dcd BRF.out) (hkeep _ _ _ n4 BF0.out.lt dcd BF0.out) (hkeep _ _ _ n5 BRS.out.lt dcd BRS.out) (hkeep _ _ _ n6 BRH.out.lt dcd BRH.out)
    have hP3:xH w (za M q l f0 rc rf rs rh) dW (je P) 40 v8:=⟨hP2,ajw HP.out.ok HPE.out.1,fun b j hb=>(hlo2 b j hb).elim (fun ⟨i,h⟩=>HP.out.lo b i h) (fun h=>by have:=HP.out.fr.size;omega),HP.out.fr.aD fW fun i hi=>HP.out.lo i 10 hi⟩;obtain ⟨M2,hM2,hMq,hMl⟩:∃M2,M2=za M q l f0 rc rf rs rh∧M2.q=q∧M2.l=l:=⟨_,rfl,rfl,rfl⟩;rw [←hM2] at hP3;have HP3:=O hP3;subst hMq hMl;clear hkeep amm hP3 hP2 hlo2 fW hc8 aue hl8 f8 h70 hM2 y1 y2 y3 y4 y5 y6 y7 y8 n1 n2 n3 n4 n5 n6 HP HPE BQ BRC BRF BF0 BRS BRH FL AV F3 HQL HC4 HS4 F4 HSS HC5 LD5 B5 F5 HFQ HC8 F8 HCX HBK HFK HA1 HLE HRG HZ0 HH2 HIM avd HC7 HB7 F7 avb HA2 HL;have hpg:∀i,i<2→∃p,(je P).pg i=some p:=fun i _=>⟨_,rfl⟩;obtain ⟨P2,hP2⟩:∃P2,P2=je P:=⟨_,rfl⟩;rw [←hP2] at HP3 hpg;clear hP2 m1 m2 m3 hlen hack hq7 hqX aw3 hb8 hn8 hm8 hbq hqw hk
    go_wp2_with fail
    go_loopw [14] (fun o wr=>∃(m:Nat) (Q:Pr) (lab:Nat→Option Nat),m≤len2∧o= .int .i64 m∧xH w M2 lab Q (40+m) wr∧∀i,i<2→∃p,Q.pg i=some p) (fun o _=>len2-(intOf o).toNat)
    case atStart=>exact ⟨0,P2,dW,Nat.zero_le _,rfl,HP3.out,hpg⟩
    case round=>
     clear HP3 hpg;obtain ⟨x,Q,akl,hx,rfl,hP,hPg⟩:=hrel
     by_cases hlt2:x<len2
     ·have b2:decide (x<len2)=true:=decide_eq_true hlt2
      have b3:decide ((x:Int)<(len2:Int))=true:=dtt;obtain ⟨b,off,a,rfl,ha,hok,hc⟩:=HS2.out.at2 hlt2;obtain ⟨c0,c1,c2⟩:=hc _ hP.fr;have hst:=fun V (hV:Fr No wr V)=>aaw (hP.au hV) oy a.which a.a a.b;obtain ⟨HST,HPG⟩:=aN hst hPg;clear hc ha hok hP hst hPg
      go_wp2_with fail
      refine (HST.out _ (by repeat (first|exact Fr.refl _ _|refine Fr.drew ?_))).mono ?_;rintro e w4 ⟨rfl,lab',Q',q4,e1,e2,e3⟩;obtain ⟨Q4,E3⟩:=aN q4 e3;clear HST q4 b2 b3 c0 c1 c2 e3
      go_wp2_with fail
      go_roundw
      case rel=>exact ⟨x+1,Q',lab',by omega,by go_num,Q4.out,fun i hi=>E3.out i (HPG.out i hi)⟩
      case measure=>simp [intOf];omega
     ·obtain rfl:x=len2:=by omega
      have b2:decide (x<x)=false:=dff;have b3:decide ((x:Int)<(x:Int))=false:=dff;have hR:akw w M2 80 (fun _=>241) wr:=⟨akl,Q,⟨hP.at_,hP.ok.more oy,hP.lo,hP.fr⟩,fun i hi=>by
       obtain ⟨p,hp⟩:=hPg i hi;have:=ae5 (hP.ok.more (m:=80) oy) hi hp;exact ⟨p,hp,show muP Q i p≤241 by omega⟩⟩
      have HR:=O hR;clear hR hP hPg HS1 HS2 hlt hlt2
      go_wp2_with fail
      go_loopw [15] (fun o wr=>∃n:Nat,n≤400∧o= .int .i64 n∧akw w M2 (80+2*n) (fun _=>max 0 (241-n)) wr) (fun o _=>400-(intOf o).toNat)
      case atStart=>exact ⟨0,by decide,rfl,HR.out.le fun i hi=>(show (241:Int)≤max 0 (241-((0:Nat):Int)) by omega)⟩
      case round=>
       clear HR b2 b3;obtain ⟨n,hn,rfl,hR⟩:=hrel;have HR:=O hR;clear hR
       by_cases hn4:n<400
       ·have b3:decide ((n:Int)<400)=true:=dtt
        have hni:(n:Int)<400:=by omega
        obtain ⟨wn,hwn⟩:∃wn,wn=wr:=⟨_,rfl⟩;subst hwn
        go_wp2_with fail
        go_loopw [16] (fun o wr=>∃i:Nat,i≤2∧o= .int .i64 i∧akw w M2 (80+2*n+i) (fun j=>if j<i then max 0 (241-(n+1)) else max 0 (241-n)) wr) (fun o _=>2-(intOf o).toNat)
        case atStart=>exact ⟨0,by decide,rfl,HR.out.le fun i hi=>(show max 0 (241-(n:Int))≤if i<0 then max 0 (241-((n:Int)+1)) else max 0 (241-(n:Int)) by rw [if_neg oy];exact Int.le_refl _)⟩
        case round=>
         clear HR b3;obtain ⟨i,hi,rfl,hR⟩:=hrel
         by_cases hi2:i<2
         ·have b3:decide ((i:Int)<2)=true:=dtt
          obtain ⟨jP,Q,hg,hb⟩:=hR;obtain ⟨p,hp,-⟩:=hb i hi2;have hn8:80+2*n+i≤1000:=by omega
          obtain ⟨ok',r1,r2,r3,r4,-,-⟩:=rF hg.ok hn8 hi2 hp;have hnx:=aio hg.ok hn8 hi2 hp hb (B:=max 0 (241-((n:Int)+1))) (by show max 0 ((if i<i then _ else max 0 (241-(n:Int)))-1)≤_;rw [if_neg oy];omega);have hpp:=hg.ok.pg i hi2;rw [hp] at hpp;have abu:=lM Q.e p Q.home.h (Int.le_trans hpp.ap0 hpp.nx);have hfin:=fun V (t:bP wr jP M2 (gP Q i p) V)=>hg.to t ok';have lH:∀V,Fr No wr V→Calls Tryz.prog 12 #[.pointer (some ⟨M2.hp,0,none⟩),.int .i64 0] V fun e w' =>∃A c,e= .returned (.slice A Q.home.h.length c)∧aA w' (fun b=>wr.heap.size≤b) TCh 8 (.slice A Q.home.h.length c) Q.home.h.length (chV Q.home.h)∧Fr No wr w' :=fun V hV=>(ko (hg.at_.still hV).home (by have:=hg.ok.hl;omega) 0 dcd).mono fun e w' ⟨A,c,h1,h2,h3⟩=>⟨A,c,h1,h2.mono fun b hb=>Nat.le_trans hV.size hb,hV.ah h3⟩;have jK:=fun V A c (hV:Fr No wr V) (ho:aA V (fun b=>wr.heap.size≤b) TCh 8 (.slice A Q.home.h.length c) Q.home.h.length (chV Q.home.h))=>mI hg.at_ hg.ok hn8 hi2 hp hV ho;have HG:=O hg;obtain ⟨sm,hsm⟩:∃sm,sm=dz Q.e p Q.home.h:=⟨_,rfl⟩;obtain ⟨t,ht⟩:∃t,t=bS (Q.fo i).seen (Q.fo i).agr (Q.fo i).c sm:=⟨_,rfl⟩;rw [←hsm] at r1 r2 r3 r4 abu jK;rw [←ht] at r3 r4;obtain ⟨P1,hP1⟩:∃P1:Pr,P1={Q with fo:=fD Q.fo i ⟨t.c,t.seen,t.agr⟩}:=⟨_,rfl⟩;have hrf:gP Q i p={P1 with pg:=fD P1.pg i (some (gZ p t.r))}:=by rw [hP1,ht,hsm];rfl
          have auo:P1.pg i=some p:=by rw [hP1];exact hp
          have aup:P1.e=Q.e:=by rw [hP1]
          have hA0:=fun V (hV:Fr No wr V)=>hg.at_.still hV;have htk:=fun V A c (hV:Fr No wr V) (ho:aA V (fun b=>wr.heap.size≤b) TCh 8 (.slice A sm.cs.length c) sm.cs.length (chV sm.cs))=>(mG (hA0 V hV) hg.ok hn8 hi2 abu (k:=50) oy (ho.mono fun b hb=> .inr (by
           cases hj:jP b with
           |none=>rfl
           |some j=>have:=hg.at_.lt b j hj;omega))).mono fun e w' ⟨h1,h2,h3⟩=>(⟨by rw [ht];exact h1,h2,h2.mono fun b hb=>by rcases hb with e|e<;>(rw [e];exact fun e=>by cases e),by rw [hP1,ht];exact h3⟩:e=Ending.returned (.tuple #[.agg #[.int .i64 t.r.ep,.int .i64 t.r.ap,.bool t.r.ok],.int .i64 0])∧Fr (fun b=>jP b=some (10+i)∨jP b=some (20+i)) V w'∧Fr (fun b=>jP b≠none) V w'∧bP V jP M2 P1 w')
          have hc0:=hg.at_.blk.cell 0;simp only [prC,pp,List.getElem?_toArray,List.getElem?_cons_zero,List.getElem?_cons_succ] at hc0;have hqw:M2.q<wr.heap.size:=hg.at_.blk.lt;have hcf:M2.cf≤maxLen:=hg.at_.caps.2.2.2.1;have hwk:IntKind.i64.wrap ((i:Int)+1)=(i:Int)+1:=IntWalk.i64_in _ oy;have hi0:(0:Int)≤(i:Int):=by omega
          have hi1:(i:Int)<2:=by omega
          obtain ⟨HFI,HNX,HHI,HSH,HTK,HRF,HR4,axk,axl⟩:=akp hfin hnx lH jK htk hrf r4 auo aup;obtain ⟨m_e,m_s,m_b,m_c⟩:=sm;obtain ⟨⟨r_e,r_a,r_o⟩,asn,t_s,t_g,t_c⟩:=t;clear hfin hnx lH jK htk hrf r1 r2 r3 r4 auo aup hA0 hg hb hp hpp abu ok' hsm ht hP1
          go_wp2_with fail
          refine (HHI.out _ (Fr.refl _ _)).mono ?_;rintro e v3 ⟨A3,n3,rfl,O3,F3⟩;have O3:=O O3;clear hc0
          go_wp2_with fail
          refine (HSH.out _ _ _ F3 O3.out).mono ?_;rintro e v5 ⟨A4,n4,rfl,O4,F5,-⟩;have O4:=O O4
          go_upto_region 36 with fail
          have fA:Fr No wr (v5.alloc (.cells #[.int .i64 m_e,.int .i64 m_s,.int .i64 m_b,.slice A4 m_c.length n4] TSh)):=F5.alloc _;have bA:Blk (v5.alloc (.cells #[.int .i64 m_e,.int .i64 m_s,.int .i64 m_b,.slice A4 m_c.length n4] TSh)) v5.heap.size TSh #[.int .i64 m_e,.int .i64 m_s,.int .i64 m_b,.slice A4 m_c.length n4]:=Blk.new _ _ _;have oA:=O4.out.au (aj v5 (.cells #[.int .i64 m_e,.int .i64 m_s,.int .i64 m_b,.slice A4 m_c.length n4] TSh));have hgw:wr.heap.size≤v5.heap.size:=F5.size;generalize v5.alloc (.cells #[.int .i64 m_e,.int .i64 m_s,.int .i64 m_b,.slice A4 m_c.length n4] TSh)=W1 at fA bA oA ⊢;generalize v5.heap.size=gB at bA hgw ⊢;have A1:=HG.out.at_.still fA;have hlt:=A1.lt;have hgn:∀g,wr.heap.size≤g→jP g=none:=fun g hg=>by
           cases hq:jP g with
           |none=>rfl
           |some j=>have:=HG.out.at_.lt g j hq;omega
          have hl0:∀g,W1.heap.size≤g→¬(jP g≠none):=fun g hg e=>e (hgn g (Nat.le_trans fA.size hg));have as0:=fun V (hV:Fr No W1 V)=>(HTK.out V A4 n4 (fA.ah hV) (oA.au hV)).mono fun e w' ⟨h1,h2,h3,h4⟩=>(⟨h1,(hV.mono fun _ h=>h.elim:Fr (fun b=>jP b=some (10+i)∨jP b=some (20+i)) W1 V).trans h2 fun b hb=> .inl hb,h3,h4⟩:e=Ending.returned (.tuple #[.agg #[.int .i64 r_e,.int .i64 r_a,.bool r_o],.int .i64 0])∧Fr (fun b=>jP b=some (10+i)∨jP b=some (20+i)) W1 w'∧Fr (fun b=>jP b≠none) V w'∧bP V jP M2 P1 w');have hall:∀V,Fr (fun b=>jP b=some (10+i)∨jP b=some (20+i)) W1 V→V.cell? ⟨M2.q,3,none⟩=some (.slice (some ⟨M2.rf,0,none⟩) 2 M2.cf)∧V.cell? ⟨M2.rf,i,none⟩=some (.pointer (some ⟨M2.fp i,0,none⟩))∧V.cell? ⟨gB,0,none⟩=some (.int .i64 m_e)∧V.cell? ⟨gB,1,none⟩=some (.int .i64 m_s)∧V.cell? ⟨gB,2,none⟩=some (.int .i64 m_b)∧V.cell? ⟨gB,3,none⟩=some (.slice A4 m_c.length n4):=fun V hV=>by
           have hn:∀{b j:Nat},jP b=some j→j≠10+i→j≠20+i→¬(jP b=some (10+i)∨jP b=some (20+i)):=fun e h1 h2 h=>by
            rcases h with h|h
            ·exact h1 (Option.some.inj (e.symm.trans h))
            ·exact h2 (Option.some.inj (e.symm.trans h))
           have hb:=A1.blk.fr hV (hn A1.q0 oy oy);have hbg:=bA.fr hV (fun h=>by have:=hgn gB hgw;rcases h with h|h<;>(rw [this] at h;cases h));exact ⟨hb.cell 3,(hV.cell (p:=⟨M2.rf,i,none⟩) (A1.lt _ _ A1.rf.1) (hn A1.rf.1 oy oy)).trans (A1.rf.2 i hi2),hbg.cell 0,hbg.cell 1,hbg.cell 2,hbg.cell 3⟩
          obtain ⟨FA,axi,HAL,HLT,HL0⟩:=jq fA as0 hall hlt hl0;have hqW:M2.q<W1.heap.size:=A1.blk.lt;clear fA bA oA A1 hlt hgn hl0 as0 hall O4 O3 F3 F5 HTK HHI HSH hgw;obtain ⟨c1,c2,c3,c4,c5,c6⟩:=HAL.out _ (Fr.refl _ _)
          go_cut [19,20] from 220 to 231 (fun x y wx=>∃gH,x= .pointer (some ⟨gH,0,none⟩)∧y= .int .i64 0∧Blk wx gH THd #[.int .i64 r_e,.int .i64 r_a,.bool r_o]∧bP W1 jP M2 P1 wx)
          case first=>
           as_aux_lemma=>
           go_region_held3 (fun V=>V.cell? ⟨M2.q,3,none⟩=some (.slice (some ⟨M2.rf,0,none⟩) 2 M2.cf)∧V.cell? ⟨M2.rf,i,none⟩=some (.pointer (some ⟨M2.fp i,0,none⟩))∧V.cell? ⟨gB,0,none⟩=some (.int .i64 m_e)∧V.cell? ⟨gB,1,none⟩=some (.int .i64 m_s)∧V.cell? ⟨gB,2,none⟩=some (.int .i64 m_b)∧V.cell? ⟨gB,3,none⟩=some (.slice A4 m_c.length n4)) ((refine HAL.out _ ?_;exact (by repeat (with_reducible first|assumption|exact Fr.refl _ _|refine Fr.alloc ?_ _|refine Fr.drew ?_|refine Fr.drewN ?_ _|refine Fr.setCell ?_ (.inr (by assumption)) _)))) (first
            |(go_at_call 26;refine (axi.out _ (by with_reducible ((repeat (first|assumption|exact Fr.refl _ _|refine Fr.alloc ?_ _|refine Fr.drew ?_|refine Fr.drewN ?_ _));done))).mono ?_;rintro e v4 ⟨rfl,Q4,R4,T4⟩;have hs4:=Q4.size;have hsB:W1.heap.size≤W1.heap.size:=Nat.le_refl _;have T4:=O T4;first|(have bk:Blk v4 W1.heap.size THd #[.int .i64 0,.int .i64 0,.bool false]:=Blk.fr (F:=fun b=>jP b≠none) (Blk.new W1.drew THd #[.int .i64 0,.int .i64 0,.bool false]) R4 (HL0.out _ (Nat.le_refl _));have u0:=bk.cell 0;have u1:=bk.cell 1;have u2:=bk.cell 2;have y0:=bk.frozen 0;have y1:=bk.frozen 1;have y2:=bk.frozen 2;simp only [List.getElem?_toArray,List.getElem?_cons_zero,List.getElem?_cons_succ] at u0 u1 u2)|skip))
           all_goals first
            |(have hq:=ng (((Fr.refl No W1).drew).alloc _) hsB (by simp) HLT.out T4.out bk (.int .i64 r_e) (.int .i64 r_a) (.bool r_o);clear u0 u1 u2 y0 y1 y2 bk;generalize World.setCell (World.setCell (World.setCell v4 _ _) _ _) _ _=W5 at hq ⊢)
            |(have hq:=kQ ((Fr.refl No W1).drew) HLT.out T4.out (.int .i64 r_e) (.int .i64 r_a) (.bool r_o);generalize World.alloc v4 _=W5 at hq ⊢)
           all_goals go_wp2_with fail
           all_goals go_meet
           all_goals exact ⟨_,rfl,rfl,hq⟩
          clear c1 c2 c3 c4 c5 c6;obtain ⟨gH,rfl,rfl,b5,T5⟩:=hcut;have u0:=b5.cell 0;have u1:=b5.cell 1;have u2:=b5.cell 2;simp only [List.getElem?_toArray,List.getElem?_cons_zero,List.getElem?_cons_succ] at u0 u1 u2;have hb5:=b5.lt;obtain ⟨al8,A5,e5,g5⟩:=T5;have hhe:=yD A5 hi2 axk.out (x:=⟨r_e,r_a,r_o⟩) (by rw [axl.out];exact HR4.out);obtain ⟨HHE,E5,G5⟩:=bC hhe e5 g5;clear A5 hhe e5 g5 b5
          go_wp2_with fail
          refine HHE.out.mono ?_;rintro e w9 ⟨rfl,T9⟩;obtain ⟨av4,hg9⟩:=HFI.out w9 (by rw [HRF.out];exact bP.base FA.out (bP.chain E5.out G5.out T9));have HG9:=O hg9;clear hg9 T9 u0 u1 u2 hb5
          go_wp2_with fail
          go_roundw
          case rel=>
           refine ⟨i+1,by omega,by go_num,av4,_,HG9.out,fun j hj=> ?_⟩;obtain ⟨q',k1,k2⟩:=HNX.out j hj;refine ⟨q',k1,Int.le_trans k2 ?_⟩
           show fD (fun j=>if j<i then max 0 (241-((n:Int)+1)) else max 0 (241-(n:Int))) i (max 0 (241-((n:Int)+1))) j≤if j<i+1 then max 0 (241-((n:Int)+1)) else max 0 (241-(n:Int))
           by_cases e:j=i
           ·subst e
            rw [upd_same,if_pos oy];exact Int.le_refl _
           ·rw [aF _ _ e]
            by_cases e2:j<i
            ·rw [if_pos e2,if_pos oy]
             exact Int.le_refl _
            ·rw [if_neg e2,if_neg oy]
             exact Int.le_refl _
          case measure=>simp [intOf];omega
         ·obtain rfl:i=2:=by omega
          have HR:=O hR;clear hR
          go_wp2_with fail
          go_roundw
          case rel=>
           refine ⟨n+1,by omega,by go_num,?_⟩;obtain ⟨jP,Q,hg,hb⟩:=HR.out;refine ⟨jP,Q,hg,fun j hj=> ?_⟩;obtain ⟨p,hp,hmu⟩:=hb j hj;have hmu:muP Q j p≤if j<2 then max 0 (241-((n:Int)+1)) else max 0 (241-(n:Int)):=hmu
           rw [if_pos hj] at hmu;exact ⟨p,hp,show muP Q j p≤max 0 (241-((n+1:Nat):Int)) by omega⟩
          case measure=>simp [intOf];omega
       ·obtain rfl:n=400:=by omega
        obtain ⟨jP,Q,hg,hb⟩:=HR.out;have hsame:∀i,i<2→∀V,Fr No wr V→Calls Tryz.prog 15 #[.pointer (some ⟨M2.hp,0,none⟩),.pointer (some ⟨M2.cp i,0,none⟩)] V fun e w' =>e= .returned (.bool true)∧Fr No V w' :=fun i hi V hV=>by
         obtain ⟨p,hp,hmu⟩:=hb i hi;have hd:=ai5 hg.ok hi hp (Int.le_trans hmu (show max 0 (241-((400:Nat):Int))≤0 by decide));have ht1:=hg.ok.ten;have ht2:=(hg.ok.fl i hi).2.2.2;refine (acr (hg.at_.still hV).home ((hg.at_.still hV).fo i hi)).mono fun e w' ⟨h1,h2⟩=>⟨?_,h2⟩;rw [h1,hd,ht1,ht2]
         simp
        have hall:∀V,Fr No wr V→V.cell? ⟨M2.q,0,none⟩=some (.pointer (some ⟨M2.hp,0,none⟩))∧V.cell? ⟨M2.q,2,none⟩=some (.slice (some ⟨M2.rc,0,none⟩) 2 M2.cc)∧V.cell? ⟨M2.rc,0,none⟩=some (.pointer (some ⟨M2.cp 0,0,none⟩))∧V.cell? ⟨M2.rc,1,none⟩=some (.pointer (some ⟨M2.cp 1,0,none⟩)):=fun V hV=>by
         have A:=hg.at_.still hV;exact ⟨A.blk.cell 0,A.blk.cell 2,A.rc.2 0 dcd,A.rc.2 1 dcd⟩
        have hm1:M2.cc≤maxLen:=hg.at_.caps.2.1;have hm3:2≤M2.cc:=hg.at_.caps.1;obtain ⟨c0,c1,c2,c3⟩:=hall _ (Fr.refl _ _);obtain ⟨HSA,adr⟩:=aN hsame hall;have HFR:=O hg.fr;clear hsame hall hg hb HR
        go_upto_region 40 with fail
        go_region_held3 (fun V=>V.cell? ⟨M2.q,0,none⟩=some (.pointer (some ⟨M2.hp,0,none⟩))∧V.cell? ⟨M2.q,2,none⟩=some (.slice (some ⟨M2.rc,0,none⟩) 2 M2.cc)∧V.cell? ⟨M2.rc,0,none⟩=some (.pointer (some ⟨M2.cp 0,0,none⟩))∧V.cell? ⟨M2.rc,1,none⟩=some (.pointer (some ⟨M2.cp 1,0,none⟩))) ((refine adr.out _ ?_;exact (by repeat (with_reducible first|assumption|exact Fr.refl _ _|refine Fr.alloc ?_ _|refine Fr.drew ?_|refine Fr.drewN ?_ _|refine Fr.setCell ?_ (.inr (by assumption)) _)))) (first
         |(go_at_call 15;refine (HSA.out _ dcd _ (by repeat (with_reducible first|assumption|exact Fr.refl _ _|refine Fr.alloc ?_ _|refine Fr.drew ?_|refine Fr.drewN ?_ _|refine Fr.setCell ?_ (.inr (by assumption)) _))).mono ?_;rintro e v4 ⟨rfl,fs⟩;have f4:Fr No wr v4:=Fr.ah (by repeat (with_reducible first|assumption|exact Fr.refl _ _|refine Fr.alloc ?_ _|refine Fr.drew ?_|refine Fr.drewN ?_ _|refine Fr.setCell ?_ (.inr (by assumption)) _)) fs;clear fs))
        all_goals go_wp2_with fail
        all_goals go_ret
        all_goals exact ⟨rfl,(HFR.out.ah (by with_reducible (repeat (first|assumption|exact Fr.refl _ _|refine Fr.drew ?_)))).vL⟩
end Go.Proofs.YtodkhcbjpodgeaaGreat
