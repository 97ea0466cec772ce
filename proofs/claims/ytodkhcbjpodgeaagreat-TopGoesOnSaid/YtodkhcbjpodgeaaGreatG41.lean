/-
  A step of a home and its followers.
-/
import Derived.Test.YtodkhcbjpodgeaaGreatG39
namespace Go.Proofs.YtodkhcbjpodgeaaGreat
open Go.ChangeShapes Go.WideShapes Go.ChangeAt Go.RowKit
set_option linter.unusedVariables false
set_option maxRecDepth 100000
set_option maxHeartbeats 4000000
set_option linter.unusedSimpArgs false
set_option linter.unusedSectionVars false
variable {w w' :World}{lab lab' :Nat→Option Nat}{M:PM}{P:Pr}{G:Nat→Prop}
set_option maxHeartbeats 32000000 in
theorem aiv (h:eH w lab M P){n:Nat}(ho:iI P n)(hn:n≤900)(wh a b:Int)(hq8:wh % 8=3):
  Calls Tryz.prog 20 #[.pointer (some ⟨M.q,0,none⟩),.agg #[.int .i64 wh,.int .i64 a,.int .i64 b]] w fun e w' =>∃ak' :Int,(aQ P wh a b).ak≤ak'∧ak'≤max (aQ P wh a b).ak (aQ P wh a b).home.h.length∧e= .returned (.bool true)∧bP w lab M {aQ P wh a b with ak:=ak',dS:=ak'} w' :=by
 obtain ⟨HQ8,H,HO⟩:=bC hq8 h ho;obtain ⟨c0,c1,c2,c3,c4,c5,c6,c7,c8,c9,c10⟩:=aP h.blk;have hlt:=h.blk.lt;clear h ho hq8
 go_in
 go_upto_region 1 with fail
 obtain ⟨g,hg⟩:∃g,g=w.heap.size:=⟨_,rfl⟩;have f1:=aj w (.cells #[.int .i64 wh,.int .i64 a,.int .i64 b] pF);have b1:Blk (w.alloc (.cells #[.int .i64 wh,.int .i64 a,.int .i64 b] pF)) g pF #[.int .i64 wh,.int .i64 a,.int .i64 b]:=by rw [hg];exact Blk.new _ _ _
 generalize w.alloc (.cells #[.int .i64 wh,.int .i64 a,.int .i64 b] pF)=w1 at f1 b1 ⊢;rw [←hg];have hgl:g<w1.heap.size:=b1.lt;have hgw:w.heap.size≤g:=by omega
 have hstep:∀V,Fr (fun b=>lab b≠none) w1 V→V.cell? ⟨g,0,none⟩=some (.int .i64 wh)∧V.cell? ⟨g,1,none⟩=some (.int .i64 a)∧V.cell? ⟨g,2,none⟩=some (.int .i64 b):=fun V hV=>by
  have hb:=b1.fr hV (fun e=>by
   cases hq:lab g with
   |none=>exact e hq
   |some j=>have:=H.out.lt g j hq;omega)
  exact ⟨hb.cell 0,hb.cell 1,hb.cell 2⟩
 have hq:=fun V (hV:Fr No w1 V)=>(H.out.still (f1.ah hV)).blk;obtain ⟨F1,HST,HQ⟩:=bC f1 hstep hq;clear hg f1 b1 c0 c1 c2 c3 c4 c5 c6 c7 c8 c9 c10 hstep hq;obtain ⟨c0,c1,c2,c3,c4,c5,c6,c7,c8,c9,c10⟩:=aP (HQ.out _ (Fr.refl _ _));obtain ⟨x0,x1,x2⟩:=HST.out _ (Fr.refl _ _)
 go_region_held3 (fun V=>V.cell? ⟨g,1,none⟩=some (.int .i64 a)∧V.cell? ⟨M.q,2,none⟩=some (.slice (some ⟨M.rc,0,none⟩) 2 M.cc)) ((refine ⟨(HST.out _ ?_).2.1,(HQ.out _ ?_).cell 2⟩<;>(with_reducible ((repeat (first|assumption|exact Fr.refl _ _|refine Fr.alloc ?_ _|refine Fr.drew ?_|refine Fr.drewN ?_ _|refine Fr.setCell ?_ (.inr (Nat.le_refl _)) _));done)))) (first|(go_at_call 9;refine (dR _ _ _ dcd dcd).mono ?_;rintro e w' ⟨rfl,rfl⟩))
 clear c0 c1 c2 c3 c4 c5 c6 c7 c8 c9 c10 x0 x1 x2;have F2:=O ((Fr.refl No w1).drew);generalize w1.drew=w2 at F2 ⊢;obtain ⟨x0,x1,x2⟩:=HST.out _ (F2.out.mono fun _ h=>h.elim)
 go_upto_block 0 with (go_at_call 9;refine (dR _ _ _ dcd dcd).mono ?_;rintro e w' ⟨rfl,rfl⟩)
 clear x0 x1 x2
 go_cut [6,7,8,9] from 19 to 164 (fun _ _ _ _ wx=>bP w2 lab M (aQ P wh a b) wx)
 case first=>
  obtain ⟨r,hr⟩:∃r,r=wh % 8:=⟨_,rfl⟩;have hr0:0≤r∧r<8:=by omega
  have h3:r=3:=by rw [hr];exact HQ8.out
  have hSW:r≤1→aQ P wh a b=fC P a b:=fun h=>by unfold aQ;rw [if_pos oy]
  have hS7:r=7→aQ P wh a b=P:=fun h=>by unfold aQ;rw [if_neg oy,if_neg oy,if_neg oy,if_neg oy]
  have hwr:∀V,Fr No w2 V→Calls Tryz.prog 57 #[.pointer (some ⟨M.q,0,none⟩),.int .i64 a,.int .i64 b] V fun e w' =>e= .returned (.tuple #[])∧bP w2 lab M (fC P a b) w' :=fun V hV=>
   (iB (H.out.still (F1.out.ah (F2.out.ah hV))) HO.out oy a b).mono fun e w' ⟨h1,h2⟩=>⟨h1,bP.base hV h2⟩
  rw [←hr];obtain ⟨HR6,HSW,HS7,HWR⟩:=fV hr hSW hS7 hwr;clear hr hSW hS7 hwr;obtain ⟨x0,x1,x2⟩:=HST.out _ (F2.out.mono fun _ h=>h.elim);subst h3;obtain ⟨i,hi⟩:∃i:Nat,a % 2=(i:Int):=⟨(a % 2).toNat,by omega⟩;have hi2:i<2:=by omega
  have hti:(a % 2).toNat=i:=by omega
  have A0:=H.out.still (F1.out.ah F2.out);obtain ⟨e5,v,hv1,hv2⟩:=A0.rs;obtain ⟨vs,q1,q2,q3⟩:=hv2 i hi2;obtain ⟨Ar,cr,hvr,hAr⟩:=q2.form;have hc1:=hv1 i hi2;rw [hvr] at hc1 q2;have hlen:=(HO.out.sh i hi2).1;have hh4:P.home.h.length≤1000000:=by have:=HO.out.hl;omega
  obtain ⟨L,hL⟩:∃L,L=(P.sh i).length:=⟨_,rfl⟩;have hSt:aQ P wh a b=match P.pg i with|none=>P|some p=>{P with sh:=fD P.sh i (P.sh i++[dz P.e p P.home.h])}:=by
   have hr6:=HR6.out;unfold aQ;rw [if_neg oy,if_pos oy];simp only [hti]
   try (cases P.pg i<;>rfl)
  have lH:∀V,Fr No w2 V→Calls Tryz.prog 12 #[.pointer (some ⟨M.hp,0,none⟩),.int .i64 0] V fun e w' =>∃A c,e= .returned (.slice A P.home.h.length c)∧aA w' (fun b=>w2.heap.size≤b) TCh 8 (.slice A P.home.h.length c) P.home.h.length (chV P.home.h)∧Fr No w2 w'∧w2.heap.size≤w'.heap.size∧Fr No V w' :=fun V hV=>(ko (A0.still hV).home hh4 0 dcd).mono fun e w' ⟨A,c,h1,h2,h3⟩=>⟨A,c,h1,h2.mono fun b hb=>Nat.le_trans hV.size hb,hV.ah h3,(hV.ah h3).size,h3⟩;have hcl:∀V,Fr No w2 V→V.cell? ⟨M.q,0,none⟩=some (pp M.hp)∧V.cell? ⟨M.q,1,none⟩=some (pp M.l):=fun V hV=>⟨(A0.still hV).blk.cell 0,(A0.still hV).blk.cell 1⟩;rw [hi]
  cases hp:P.pg i with
  |none=>
   rw [hp] at hSt;simp only at hSt;have jK:=fun V (hV:Fr No w2 V) (hs:Value)=>(mH A0 hi2 hp hV hs).mono fun e w' ⟨h1,h2,h3⟩=>(⟨h1,h2,h2.size,h3⟩:e=Ending.returned (.tuple #[.agg #[.int .i64 0,.int .i64 0,.int .i64 0,.slice none 0 0],.bool false])∧Fr No w2 w'∧w2.heap.size≤w'.heap.size∧Fr No V w');obtain ⟨HHI,HSH,HCL,HSt,AA,HI⟩:=oK lH jK hcl hSt A0 (And.intro hi hti);have hi0:(0:Int)≤(i:Int):=by omega
   have hi1:(i:Int)<2:=by omega
   have hwr:IntKind.i64.wrap ((i:Int)+1)=(i:Int)+1:=IntWalk.i64_in _ oy;clear lH jK hcl hSt A0 q1 q2 q3 hv1 hv2 hAr hL hi hti hc1 hvr hp
   go_upto_region 8 with fail
   obtain ⟨c0,c1⟩:=HCL.out _ (Fr.refl _ _)
   go_region_held3 (fun V=>V.cell? ⟨M.q,0,none⟩=some (pp M.hp)∧V.cell? ⟨M.q,1,none⟩=some (pp M.l)) ((refine HCL.out _ ?_;exact (by repeat (with_reducible first|assumption|exact Fr.refl _ _|refine Fr.alloc ?_ _|refine Fr.drew ?_|refine Fr.drewN ?_ _|refine Fr.setCell ?_ (.inr (by assumption)) _)))) (first
    |(go_at_call 12;refine (HHI.out _ (by repeat (with_reducible first|assumption|exact Fr.refl _ _|refine Fr.alloc ?_ _|refine Fr.drew ?_|refine Fr.drewN ?_ _|refine Fr.setCell ?_ (.inr (by assumption)) _))).mono ?_;rintro e v3 ⟨A3,n3,rfl,O3,Q3,s3,R3⟩)
    |(go_at_call 25;refine (HSH.out _ (by repeat (with_reducible first|assumption|exact Fr.refl _ _|refine Fr.alloc ?_ _|refine Fr.drew ?_|refine Fr.drewN ?_ _|refine Fr.setCell ?_ (.inr (by assumption)) _)) _).mono ?_;rintro e v4 ⟨rfl,Q4,s4,R4⟩;first|(have bk:Blk v4 v3.heap.size TSh #[.int .i64 0,.int .i64 0,.int .i64 0,.slice none 0 0]:=Blk.fr (F:=No) (Blk.new v3 TSh #[.int .i64 0,.int .i64 0,.int .i64 0,.slice none 0 0]) R4 id;have hsB:=s3;have u0:=bk.cell 0;have u1:=bk.cell 1;have u2:=bk.cell 2;have u3:=bk.cell 3;have y0:=bk.frozen 0;have y1:=bk.frozen 1;have y2:=bk.frozen 2;have y3:=bk.frozen 3;simp only [List.getElem?_toArray,List.getElem?_cons_zero,List.getElem?_cons_succ] at u0 u1 u2 u3)|(have bk:Blk v4 w2.heap.size TSh #[.int .i64 0,.int .i64 0,.int .i64 0,.slice none 0 0]:=Blk.fr (F:=No) (Blk.new w2.drew TSh #[.int .i64 0,.int .i64 0,.int .i64 0,.slice none 0 0]) (Fr.ah R3 R4) id;have hsB:w2.heap.size≤w2.heap.size:=Nat.le_refl _;have u0:=bk.cell 0;have u1:=bk.cell 1;have u2:=bk.cell 2;have u3:=bk.cell 3;have y0:=bk.frozen 0;have y1:=bk.frozen 1;have y2:=bk.frozen 2;have y3:=bk.frozen 3;simp only [List.getElem?_toArray,List.getElem?_cons_zero,List.getElem?_cons_succ] at u0 u1 u2 u3)|skip))
   all_goals go_wp2_with fail
   all_goals rw [←HI.out.1]
   all_goals go_meet
   all_goals rw [HSt.out]
   all_goals refine AA.out.self ?_
   all_goals exact (by repeat (with_reducible first|assumption|exact Fr.refl _ _|refine Fr.alloc ?_ _|refine Fr.drew ?_|refine Fr.drewN ?_ _|refine Fr.setCell ?_ (.inr (by assumption)) _))
  |some p=>
   rw [hp] at hSt;simp only at hSt;obtain ⟨m,hm⟩:∃m,m=dz P.e p P.home.h:=⟨_,rfl⟩;have jK:=fun V A c (hV:Fr No w2 V) (ho:aA V (fun b=>w2.heap.size≤b) TCh 8 (.slice A P.home.h.length c) P.home.h.length (chV P.home.h))=>(mI A0 HO.out oy hi2 hp hV ho).mono fun e w' ⟨A2,c2,h1,h2,h3,h4⟩=>(⟨A2,c2,by rw [hm];exact h1,by rw [hm];exact h2,h3,h3.size,h4⟩:∃A2 c2,e=Ending.returned (.tuple #[.agg #[.int .i64 m.ep,.int .i64 m.sq,.int .i64 m.bf,.slice A2 m.cs.length c2],.bool true])∧aA w' (fun b=>w2.heap.size≤b) TCh 8 (.slice A2 m.cs.length c2) m.cs.length (chV m.cs)∧Fr No w2 w'∧w2.heap.size≤w'.heap.size∧Fr No V w');rw [←hm] at hSt;rw [←hL] at hc1 q2 hlen;have hfin:=fun (V1 V W' :World) (v' :Value) A2 c2 (h1:Fr No w2 V1) (ho:aA V1 (fun b=>w2.heap.size≤b) TCh 8 (.slice A2 m.cs.length c2) m.cs.length (chV m.cs)) (h2:Fr No V1 V) (ha:aJ V 0 TSh 4 (.slice Ar L cr) L (shV (P.sh i) vs) (shC m (.slice A2 m.cs.length c2)) 1 v' W')=>A0.om hi2 q1 (by rw [←hL];exact q2) q3 h1 ho h2 (by rw [←hL];exact ha);have hown:=fun V (hV:Fr No w2 V)=>q2.au hV;have hrs:=fun V (hV:Fr No w2 V)=>(⟨(A0.still hV).blk.cell 4,(hV.cell (p:=⟨M.rs,i,none⟩) (A0.lt _ _ e5) id).trans hc1.1,(hV.frozen (p:=⟨M.rs,i,none⟩) (A0.lt _ _ e5) id).trans hc1.2⟩:V.cell? ⟨M.q,4,none⟩=some (.slice (some ⟨M.rs,0,none⟩) 2 M.cs)∧V.cell? ⟨M.rs,i,none⟩=some (.slice Ar L cr)∧V.frozen? ⟨M.rs,i,none⟩=false);have hkeep:=fun V W' v' u (hV:Fr No w2 V) (ha:aJ V 0 TSh 4 (.slice Ar L cr) L (shV (P.sh i) vs) (shC m u) 1 v' W')=>(by
    obtain ⟨o1,f1⟩:=(q2.au hV).appended ha;have n5:¬aT lab (30+i) M.rs:=neK oy _ e5;have hl5:=nll (A0.lt _ _ e5) hV.size;exact ⟨o1.form,(f1.cell (p:=⟨M.rs,i,none⟩) hl5 n5).trans ((hrs V hV).2.1),(f1.frozen (p:=⟨M.rs,i,none⟩) hl5 n5).trans (hrs V hV).2.2,(f1.cell (p:=⟨M.q,4,none⟩) (nll (A0.lt _ _ A0.q0) hV.size) (neK oy _ A0.q0)).trans (hrs V hV).1⟩:(∃A cap,v' = .slice A (L+1) cap∧(A=none→L+1=0))∧W'.cell? ⟨M.rs,i,none⟩=some (.slice Ar L cr)∧W'.frozen? ⟨M.rs,i,none⟩=false∧W'.cell? ⟨M.q,4,none⟩=some (.slice (some ⟨M.rs,0,none⟩) 2 M.cs))
   have hm3:M.cs≤maxLen:=A0.caps.2.2.2.2.2.1;have hL9:L≤900:=by omega
   obtain ⟨HHI,HSH,HCL,HSt,AA,HFI,HOW,HRS,HKP,HI⟩:=yU lH jK hcl hSt A0 hfin hown hrs hkeep (And.intro hi hti);have hi0:(0:Int)≤(i:Int):=by omega
   have hi1:(i:Int)<2:=by omega
   have hwr:IntKind.i64.wrap ((i:Int)+1)=(i:Int)+1:=IntWalk.i64_in _ oy;clear lH jK hcl hSt A0 q1 q2 q3 hv1 hv2 hAr hL hi hti hc1 hvr hp hfin hown hrs hkeep hm hlen
   go_upto_region 8 with fail
   obtain ⟨c0,c1⟩:=HCL.out _ (Fr.refl _ _)
   go_cut [6,7] from 34 to 48 (fun x y wx=>∃gB A4 n4,x= .pointer (some ⟨gB,0,none⟩)∧y= .bool true∧Blk wx gB TSh #[.int .i64 m.ep,.int .i64 m.sq,.int .i64 m.bf,.slice A4 m.cs.length n4]∧Fr No w2 wx∧aA wx (fun b=>w2.heap.size≤b) TCh 8 (.slice A4 m.cs.length n4) m.cs.length (chV m.cs))
   case first=>
    as_aux_lemma=>
    go_region_held3 (fun V=>V.cell? ⟨M.q,0,none⟩=some (pp M.hp)∧V.cell? ⟨M.q,1,none⟩=some (pp M.l)) ((refine HCL.out _ ?_;exact (by repeat (with_reducible first|assumption|exact Fr.refl _ _|refine Fr.alloc ?_ _|refine Fr.drew ?_|refine Fr.drewN ?_ _|refine Fr.setCell ?_ (.inr (by assumption)) _)))) (first
     |(go_at_call 12;refine (HHI.out _ (by repeat (with_reducible first|assumption|exact Fr.refl _ _|refine Fr.alloc ?_ _|refine Fr.drew ?_|refine Fr.drewN ?_ _|refine Fr.setCell ?_ (.inr (by assumption)) _))).mono ?_;rintro e v3 ⟨A3,n3,rfl,O3,Q3,s3,R3⟩;have O3:=O O3)
     |(go_at_call 25;refine (HSH.out _ _ _ (by repeat (with_reducible first|assumption|exact Fr.refl _ _|refine Fr.alloc ?_ _|refine Fr.drew ?_|refine Fr.drewN ?_ _|refine Fr.setCell ?_ (.inr (by assumption)) _)) (O3.out.au frz)).mono ?_;rintro e v4 ⟨A4,n4,rfl,O4,Q4,s4,R4⟩;have O4:=O O4;first|(have bk:Blk v4 v3.heap.size TSh #[.int .i64 0,.int .i64 0,.int .i64 0,.slice none 0 0]:=Blk.fr (F:=No) (Blk.new v3 TSh #[.int .i64 0,.int .i64 0,.int .i64 0,.slice none 0 0]) R4 id;have hsB:=s3;have u0:=bk.cell 0;have u1:=bk.cell 1;have u2:=bk.cell 2;have u3:=bk.cell 3;have y0:=bk.frozen 0;have y1:=bk.frozen 1;have y2:=bk.frozen 2;have y3:=bk.frozen 3;simp only [List.getElem?_toArray,List.getElem?_cons_zero,List.getElem?_cons_succ] at u0 u1 u2 u3)|(have bk:Blk v4 w2.heap.size TSh #[.int .i64 0,.int .i64 0,.int .i64 0,.slice none 0 0]:=Blk.fr (F:=No) (Blk.new w2.drew TSh #[.int .i64 0,.int .i64 0,.int .i64 0,.slice none 0 0]) (Fr.ah R3 R4) id;have hsB:w2.heap.size≤w2.heap.size:=Nat.le_refl _;have u0:=bk.cell 0;have u1:=bk.cell 1;have u2:=bk.cell 2;have u3:=bk.cell 3;have y0:=bk.frozen 0;have y1:=bk.frozen 1;have y2:=bk.frozen 2;have y3:=bk.frozen 3;simp only [List.getElem?_toArray,List.getElem?_cons_zero,List.getElem?_cons_succ] at u0 u1 u2 u3)|skip))
    all_goals first
     |(have hq:=vY Q4 hsB bk O4.out (.int .i64 m.ep) (.int .i64 m.sq) (.int .i64 m.bf) (.slice A4 m.cs.length n4);clear u0 u1 u2 u3 y0 y1 y2 y3 bk;generalize World.setCell (World.setCell (World.setCell (World.setCell v4 _ _) _ _) _ _) _ _=W5 at hq ⊢)
     |(have hq:=qY Q4 O4.out (.int .i64 m.ep) (.int .i64 m.sq) (.int .i64 m.bf) (.slice A4 m.cs.length n4);generalize World.alloc v4 _=W5 at hq ⊢)
    all_goals go_wp2_with fail
    all_goals go_meet
    all_goals obtain ⟨b5,f5,O5⟩:=hq
    all_goals exact ⟨_,A4,n4,rfl,rfl,b5,f5,O5⟩
   clear c0 c1;obtain ⟨gB,A4,n4,rfl,rfl,b5,f5,O5⟩:=hcut;have u0:=b5.cell 0;have u1:=b5.cell 1;have u2:=b5.cell 2;have u3:=b5.cell 3;simp only [List.getElem?_toArray,List.getElem?_cons_zero,List.getElem?_cons_succ] at u0 u1 u2 u3;obtain ⟨c4,c5,z5⟩:=HRS.out _ f5;have O5:=O O5;have hl3:=b5.lt;have hq5:M.q<wc.heap.size:=nll (AA.out.lt _ _ AA.out.q0) f5.size;have hr5:M.rs<wc.heap.size:=nll (AA.out.lt _ _ AA.out.rs.1) f5.size;clear b5;obtain ⟨i1,hi1,hz0,hz1,hz2⟩:=info_parts sH;have hor:=fun V (hV:Fr No w2 V)=>(HOW.out V hV).1;obtain ⟨HI1,HZ0,HZ1,HZ2,HOR⟩:=jq hi1 hz0 hz1 hz2 hor;clear hi1 hz0 hz1 hz2 hor HOW
   go_upto_region 10 with fail
   go_region_law (refine aI _ (by rfl) (.tmp 61) (.tmp 63) _ (by rfl) 0 TSh i1 _ 4 48 Tryz.underlying146 HI1.out HZ0.out HZ1.out HZ2.out rfl dcd (.slice Ar L cr) L (shV (P.sh i) vs) (by rfl) (HOR.out _ ((f5.drew).alloc _)) (wc.heap.size+1) (some ⟨wc.heap.size,0,none⟩) 1 1 (shC m (.slice A4 m.cs.length n4)) (by rfl) (fun h=>by cases h) (Rd.new wc.drew _ TSh rfl) rfl (by simp [shC,Value.oneCell']) mxl oy (Nat.zero_le _) ?_;intro v1 w8 happ;obtain ⟨⟨A1,cc1,rfl,-⟩,q2_,z2_,q4_⟩:=HKP.out _ _ _ _ ((f5.drew).alloc _) happ;have HTO:=O (HFI.out _ _ _ _ _ _ f5 O5.out (((Fr.refl No wc).drew).alloc _) happ);clear happ)
   all_goals go_wp2_with fail
   all_goals rw [←HI.out.1]
   all_goals go_meet
   all_goals rw [HSt.out]
   all_goals exact HTO.out
 case rest=>
  as_aux_lemma=>
  have hQo:iI (aQ P wh a b) (n+1):=step_ok HO.out oy wh a b;obtain ⟨Q,hQ⟩:∃Q,Q=aQ P wh a b:=⟨_,rfl⟩;rw [←hQ] at hQo hcut;have HQE:=O hQ;clear hQ;have agu:=O hcut;obtain ⟨dW,A2,e2,g2⟩:=hcut;have hack:∀V,Fr No wc V→Calls Tryz.prog 58 #[.pointer (some ⟨M.l,0,none⟩),.int .i64 (Q.home.h.length:Int)] V fun e w' =>∃ak',e= .returned (.int .i64 ak')∧Q.ak≤ak'∧ak'≤max Q.ak Q.home.h.length∧Fr (aT dW 2) wc w'∧bP wc dW M {Q with ak:=ak',pg:=Q.pg} w' :=by
   intro V hV;obtain ⟨D,hL,hR⟩:=(A2.still hV).lead;refine (nJ hL Q.home.h.length (by have:=hQo.hl;omega) hQo.lag).mono ?_;rintro e w' ⟨ak',rfl,h1,h2,h3,h4⟩;exact ⟨ak',rfl,h1,h2,(hV.mono fun _ h=>h.elim:Fr (aT dW 2) wc V).trans h4 fun b hb=> .inl hb,bP.base hV ((A2.still hV).jJ h3 hR h4)⟩
  have hlen:=fun V (hV:Fr No wc V)=>bQ (A2.still hV).home;have hcl:=fun V (hV:Fr (aT dW 2) wc V)=>aP (A2.blk.fr hV (neK dcd M.q A2.q0));have hfz:=fun V (hV:Fr (aT dW 2) wc V)=>(A2.blk.fr hV (neK dcd M.q A2.q0)).frozen 10;have hcs:∀(V:World) (u:Value),Fr (aT dW 2) wc V→(V.setCell ⟨M.q,10,none⟩ u).cell? ⟨M.q,0,none⟩=some (pp M.hp)∧(V.setCell ⟨M.q,10,none⟩ u).cell? ⟨M.q,1,none⟩=some (pp M.l):=fun V u hV=>by
   have hb:=(A2.blk.fr hV (neK dcd M.q A2.q0)).aC 10 u;exact ⟨hb.cell 0,hb.cell 1⟩
  have HCS:=O hcs;clear hcs;obtain ⟨c0,c1,c2,c3,c4,c5,c6,c7,c8,c9,c10⟩:=aP A2.blk;obtain ⟨AA,G2,QO,HACK,HLEN,HCL,HFZ⟩:=jo A2 (And.intro e2 g2) hQo hack hlen hcl hfz;clear A2 e2 g2 hQo hack hlen hcl hfz agu
  go_upto_region 21 with fail
  clear c0 c1 c2 c3 c4 c5 c6 c7 c8 c9 c10;obtain ⟨c0,c1,c2,c3,c4,c5,c6,c7,c8,c9,c10⟩:=HCL.out _ (Fr.refl _ _)
  go_region_held3 (fun V=>V.cell? ⟨M.q,0,none⟩=some (pp M.hp)∧V.cell? ⟨M.q,1,none⟩=some (pp M.l)) (first|(refine ⟨(HCL.out _ ?_).1,(HCL.out _ ?_).2.1⟩<;>(with_reducible ((repeat (first|assumption|exact Fr.refl _ _|refine Fr.alloc ?_ _|refine Fr.drew ?_|refine Fr.drewN ?_ _|refine Fr.setCell ?_ (.inr (Nat.le_refl _)) _));done)))|(refine HCS.out _ _ ?_;(with_reducible ((repeat (first|assumption|exact Fr.refl _ _|refine Fr.alloc ?_ _|refine Fr.drew ?_|refine Fr.drewN ?_ _|refine Fr.setCell ?_ (.inr (Nat.le_refl _)) _));done)))) (first
   |(go_at_call 16;refine (HLEN.out _ (by with_reducible ((repeat (first|assumption|exact Fr.refl _ _|refine Fr.alloc ?_ _|refine Fr.drew ?_|refine Fr.drewN ?_ _));done))).mono ?_;rintro e w' ⟨rfl,rfl⟩)
   |(go_at_call 58;refine (HACK.out _ (by with_reducible ((repeat (first|assumption|exact Fr.refl _ _|refine Fr.alloc ?_ _|refine Fr.drew ?_|refine Fr.drewN ?_ _));done))).mono ?_;rintro e v4 ⟨ak',rfl,L1,L2,Q4,Q5⟩;have z10:=HFZ.out _ Q4;have z11:=(HCL.out _ Q4).2.2.2.2.2.2.2.2.2.2;have K1:=O L1;have K2:=O L2;have K5:=O Q5;clear L1 L2 Q5))
  have hend:bP wc dW M {Q with ak:=ak',dS:=ak'} (v4.setCell ⟨M.q,10,none⟩ (.int .i64 ak')):=K5.out.then AA.out.lt fun akl A3=>A3.oD (nu:=Q.nu) (ac:=ak') (Blk.cv (A3.blk.aC 10 _) (by simp [prC])) ((Fr.refl (fun b=>b=M.q) v4).setCell (p:=⟨M.q,10,none⟩) (.inl rfl) _);clear c0 c1 c2 c3 c4 c5 c6 c7 c8 c9 c10 z10 z11 Q4 K5;generalize v4.setCell ⟨M.q,10,none⟩ (.int .i64 ak')=v5 at*;have HE:=O hend;obtain ⟨jP,A4,e4,g4⟩:=hend;have d1:decide (Q.dS≤ak')=true:=decide_eq_true (by have:=QO.out.ack;have:=K1.out;omega);have d2:decide (ak'≤(Q.home.h.length:Int))=true:=decide_eq_true (by have:=QO.out.ak1;have:=K2.out;omega);have hlen:=fun V (hV:Fr No v5 V)=>bQ (A4.still hV).home;have hcl:=fun V (hV:Fr No v5 V)=>(A4.still hV).blk;obtain ⟨c0,c1,c2,c3,c4,c5,c6,c7,c8,c9,c10⟩:=aP A4.blk;obtain ⟨HL4,HC4⟩:=aN hlen hcl;clear hlen hcl A4 e4 g4;simp only at c10
  go_upto_region 22 with fail
  go_region_held3 (fun V=>V.cell? ⟨M.q,0,none⟩=some (pp M.hp)∧V.cell? ⟨M.q,10,none⟩=some (.int .i64 ak')) ((refine ⟨(HC4.out _ ?_).cell 0,(HC4.out _ ?_).cell 10⟩<;>(with_reducible ((repeat (first|assumption|exact Fr.refl _ _|refine Fr.alloc ?_ _|refine Fr.drew ?_|refine Fr.drewN ?_ _|refine Fr.setCell ?_ (.inr (Nat.le_refl _)) _));done)))) (first
   |(go_at_call 16;refine (HL4.out _ (by with_reducible ((repeat (first|assumption|exact Fr.refl _ _|refine Fr.alloc ?_ _|refine Fr.drew ?_|refine Fr.drewN ?_ _));done))).mono ?_;rintro e w' ⟨rfl,rfl⟩))
  all_goals go_wp2_with fail
  all_goals go_ret
  all_goals rw [←HQE.out]
  all_goals refine ⟨ak',K1.out,K2.out,rfl,bP.base (F1.out.ah F2.out) (bP.chain G2.out.1 G2.out.2 ?_)⟩
  all_goals exact HE.out.then AA.out.lt fun al8 A5=>A5.self ((Fr.refl _ _).drew)
end Go.Proofs.YtodkhcbjpodgeaaGreat
