/-
  A step of a home and its followers.
-/
import Derived.Test.YtodkhcbjpodgeaaGreatG39
namespace Go.Proofs.YtodkhcbjpodgeaaGreat
open Go.ChangeShapes Go.WideShapes Go.ChangeAt Go.RowKit
set_option linter.unusedVariables false
set_option maxRecDepth 100000
set_option maxHeartbeats 4000000
set_option linter.unusedSimpArgs false
set_option linter.unusedSectionVars false
variable {w w' :World}{lab lab' :Nat→Option Nat}{M:PM}{P:Pr}{G:Nat→Prop}
set_option maxHeartbeats 32000000 in
theorem ait (h:eH w lab M P){n:Nat}(ho:iI P n)(hn:n≤900)(wh a b:Int)(hq8:wh % 8=5):
  Calls Tryz.prog 20 #[.pointer (some ⟨M.q,0,none⟩),.agg #[.int .i64 wh,.int .i64 a,.int .i64 b]] w fun e w' =>∃ak' :Int,(aQ P wh a b).ak≤ak'∧ak'≤max (aQ P wh a b).ak (aQ P wh a b).home.h.length∧e= .returned (.bool true)∧bP w lab M {aQ P wh a b with ak:=ak',dS:=ak'} w' :=by
 obtain ⟨HQ8,H,HO⟩:=bC hq8 h ho;obtain ⟨c0,c1,c2,c3,c4,c5,c6,c7,c8,c9,c10⟩:=aP h.blk;have hlt:=h.blk.lt;clear h ho hq8
 go_in
 go_upto_region 1 with fail
 obtain ⟨g,hg⟩:∃g,g=w.heap.size:=⟨_,rfl⟩;have f1:=aj w (.cells #[.int .i64 wh,.int .i64 a,.int .i64 b] pF);have b1:Blk (w.alloc (.cells #[.int .i64 wh,.int .i64 a,.int .i64 b] pF)) g pF #[.int .i64 wh,.int .i64 a,.int .i64 b]:=by rw [hg];exact Blk.new _ _ _
 generalize w.alloc (.cells #[.int .i64 wh,.int .i64 a,.int .i64 b] pF)=w1 at f1 b1 ⊢;rw [←hg];have hgl:g<w1.heap.size:=b1.lt;have hgw:w.heap.size≤g:=by omega
 have hstep:∀V,Fr (fun b=>lab b≠none) w1 V→V.cell? ⟨g,0,none⟩=some (.int .i64 wh)∧V.cell? ⟨g,1,none⟩=some (.int .i64 a)∧V.cell? ⟨g,2,none⟩=some (.int .i64 b):=fun V hV=>by
  have hb:=b1.fr hV (fun e=>by
   cases hq:lab g with
   |none=>exact e hq
   |some j=>have:=H.out.lt g j hq;omega)
  exact ⟨hb.cell 0,hb.cell 1,hb.cell 2⟩
 have hq:=fun V (hV:Fr No w1 V)=>(H.out.still (f1.ah hV)).blk;obtain ⟨F1,HST,HQ⟩:=bC f1 hstep hq;clear hg f1 b1 c0 c1 c2 c3 c4 c5 c6 c7 c8 c9 c10 hstep hq;obtain ⟨c0,c1,c2,c3,c4,c5,c6,c7,c8,c9,c10⟩:=aP (HQ.out _ (Fr.refl _ _));obtain ⟨x0,x1,x2⟩:=HST.out _ (Fr.refl _ _)
 go_region_held3 (fun V=>V.cell? ⟨g,1,none⟩=some (.int .i64 a)∧V.cell? ⟨M.q,2,none⟩=some (.slice (some ⟨M.rc,0,none⟩) 2 M.cc)) ((refine ⟨(HST.out _ ?_).2.1,(HQ.out _ ?_).cell 2⟩<;>(with_reducible ((repeat (first|assumption|exact Fr.refl _ _|refine Fr.alloc ?_ _|refine Fr.drew ?_|refine Fr.drewN ?_ _|refine Fr.setCell ?_ (.inr (Nat.le_refl _)) _));done)))) (first|(go_at_call 9;refine (dR _ _ _ dcd dcd).mono ?_;rintro e w' ⟨rfl,rfl⟩))
 clear c0 c1 c2 c3 c4 c5 c6 c7 c8 c9 c10 x0 x1 x2;have F2:=O ((Fr.refl No w1).drew);generalize w1.drew=w2 at F2 ⊢;obtain ⟨x0,x1,x2⟩:=HST.out _ (F2.out.mono fun _ h=>h.elim)
 go_upto_block 0 with (go_at_call 9;refine (dR _ _ _ dcd dcd).mono ?_;rintro e w' ⟨rfl,rfl⟩)
 clear x0 x1 x2
 go_cut [6,7,8,9] from 19 to 164 (fun _ _ _ _ wx=>bP w2 lab M (aQ P wh a b) wx)
 case first=>
  obtain ⟨r,hr⟩:∃r,r=wh % 8:=⟨_,rfl⟩;have hr0:0≤r∧r<8:=by omega
  have h5:r=5:=by rw [hr];exact HQ8.out
  have hSW:r≤1→aQ P wh a b=fC P a b:=fun h=>by unfold aQ;rw [if_pos oy]
  have hS7:r=7→aQ P wh a b=P:=fun h=>by unfold aQ;rw [if_neg oy,if_neg oy,if_neg oy,if_neg oy]
  have hwr:∀V,Fr No w2 V→Calls Tryz.prog 57 #[.pointer (some ⟨M.q,0,none⟩),.int .i64 a,.int .i64 b] V fun e w' =>e= .returned (.tuple #[])∧bP w2 lab M (fC P a b) w' :=fun V hV=>
   (iB (H.out.still (F1.out.ah (F2.out.ah hV))) HO.out oy a b).mono fun e w' ⟨h1,h2⟩=>⟨h1,bP.base hV h2⟩
  rw [←hr];obtain ⟨HR6,HSW,HS7,HWR⟩:=fV hr hSW hS7 hwr;clear hr hSW hS7 hwr;obtain ⟨x0,x1,x2⟩:=HST.out _ (F2.out.mono fun _ h=>h.elim);subst h5;obtain ⟨i,hi⟩:∃i:Nat,a % 2=(i:Int):=⟨(a % 2).toNat,by omega⟩;have hi2:i<2:=by omega
  have hti:(a % 2).toNat=i:=by omega
  have hi0:(0:Int)≤(i:Int):=by omega
  have hi1:(i:Int)<2:=by omega
  have A0:=H.out.still (F1.out.ah F2.out);obtain ⟨e5,v,hv1,hv2⟩:=A0.rs;obtain ⟨vs,q1,q2,q3⟩:=hv2 i hi2;obtain ⟨Ar,cr,hvr,hAr⟩:=q2.form;have hc1:=(hv1 i hi2).1;rw [hvr] at hc1 q2;have c4:=A0.blk.cell 4;simp only [prC,List.getElem?_toArray,List.getElem?_cons_zero,List.getElem?_cons_succ] at c4;have hlen:=(HO.out.sh i hi2).1;have hsl:=aaj (P.sh i) vs q1;obtain ⟨L,hL⟩:∃L,L=(P.sh i).length:=⟨_,rfl⟩;rw [←hL] at hc1 q1 q2 hlen hsl;have hSt:aQ P wh a b=if L=0 then P else lY P i (pick (P.sh i) b sh0):=by
   have hr6:=HR6.out;unfold aQ;rw [if_neg oy,if_neg oy,if_pos oy];simp only [hti,←hL]
  have hm3:M.cs≤maxLen:=A0.caps.2.2.2.2.2.1;rw [hi];have HI:=O (And.intro hi hti)
  by_cases hz:L=0
  ·rw [if_pos hz] at hSt
   obtain ⟨HSt,A0⟩:=aN hSt A0;clear hSt q1 q2 q3 hsl hL hv2 hv1 hAr hi hti hvr;subst hz
   go_wp2_with fail
   rw [←HI.out.1]
   go_meet
   rw [HSt.out];exact A0.out.self (Fr.refl _ _)
  rw [if_neg hz] at hSt;have hL0:0<L:=by omega
  obtain ⟨k,hk⟩:∃k:Nat,b % (L:Int)=(k:Int):=⟨(b % (L:Int)).toNat,by have:=Int.emod_nonneg b (b:=(L:Int)) oy;omega⟩;have hkL:k<L:=by have:=Int.emod_lt_of_pos b (b:=(L:Int)) oy;omega
  have hk0:(0:Int)≤(k:Int):=by omega
  have hk1:(k:Int)<(L:Int):=by omega
  obtain ⟨m,hm⟩:∃m,(P.sh i)[k]? =some m:=⟨_,List.getElem?_eq_getElem oy⟩;have hpick:pick (P.sh i) b sh0=m:=by unfold pick;rw [←hL,hk];simp [List.getD_eq_getElem?_getD,hm]
  rw [hpick] at hSt;obtain ⟨Am,cm,hvm,hom⟩:=q3 k m hm;obtain ⟨br,hAe,hbl,hbF,hbc⟩:=q2.head hL0;subst hAe;have abu:=(HO.out.sh i hi2).2 m (List.mem_of_getElem? hm);obtain ⟨t,ht⟩:∃t,t=bS (P.fo i).seen (P.fo i).agr (P.fo i).c m:=⟨_,rfl⟩;have amj:t.er=0:=(ny HO.out oy hi2 abu ht).2.2.1.er;obtain ⟨P1,hP1⟩:∃P1:Pr,P1={P with fo:=fD P.fo i ⟨t.c,t.seen,t.agr⟩}:=⟨_,rfl⟩;have htk:=fun V (hV:Fr No w2 V)=>(mG (A0.still hV) HO.out oy hi2 abu (k:=50) oy ((hom.au hV).mono fun b hb=> .inl hb)).mono fun e w' ⟨h1,h2,h3⟩=>(⟨by rw [ht];exact h1,(hV.mono fun _ h=>h.elim:Fr (fun b=>lab b=some (10+i)∨lab b=some (20+i)) w2 V).trans h2 fun b hb=> .inl hb,h2.mono fun b hb=>by rcases hb with e|e<;>(rw [e];exact fun e=>by cases e),by rw [hP1,ht];exact h3⟩:e=Ending.returned (.tuple #[.agg #[.int .i64 t.r.ep,.int .i64 t.r.ap,.bool t.r.ok],.int .i64 0])∧Fr (fun b=>lab b=some (10+i)∨lab b=some (20+i)) w2 w'∧Fr (fun b=>lab b≠none) V w'∧bP V lab M P1 w');have anb:aQ P wh a b={P1 with hd:=fD P1.hd i (P1.hd i++[t.r])}:=by
   rw [hSt,hP1];unfold lY;rw [←ht,if_pos amj]
  have hdl:(P1.hd i).length≤900:=by rw [hP1];have:=(HO.out.hd i hi2).1;show (P.hd i).length≤900;omega
  have hmod:∀V,Calls Tryz.prog 9 #[.int .i64 b,.int .i64 (L:Int)] V fun e w' =>e= .returned (.int .i64 (k:Int))∧V=w' :=fun V=>by rw [←hk];exact dR _ _ _ oy oy
  have hall:∀V,Fr (fun b=>lab b=some (10+i)∨lab b=some (20+i)) w2 V→V.cell? ⟨M.q,3,none⟩=some (.slice (some ⟨M.rf,0,none⟩) 2 M.cf)∧V.cell? ⟨M.rf,i,none⟩=some (.pointer (some ⟨M.fp i,0,none⟩))∧V.cell? ⟨M.q,4,none⟩=some (.slice (some ⟨M.rs,0,none⟩) 2 M.cs)∧V.cell? ⟨M.rs,i,none⟩=some (.slice (some ⟨br,0,none⟩) L cr)∧V.cell? ⟨g,2,none⟩=some (.int .i64 b)∧V.cell? ⟨br,k*4,none⟩=some (.int .i64 m.ep)∧V.cell? ⟨br,k*4+1,none⟩=some (.int .i64 m.sq)∧V.cell? ⟨br,k*4+2,none⟩=some (.int .i64 m.bf)∧V.cell? ⟨br,k*4+3,none⟩=some (.slice Am m.cs.length cm):=fun V hV=>by
   have hn:∀{b j:Nat},lab b=some j→j≠10+i→j≠20+i→¬(lab b=some (10+i)∨lab b=some (20+i)):=fun e h1 h2 h=>by
    rcases h with h|h
    ·exact h1 (Option.some.inj (e.symm.trans h))
    ·exact h2 (Option.some.inj (e.symm.trans h))
   have hb:=A0.blk.fr hV (hn A0.q0 oy oy);have hg:=(HST.out V ((F2.out.mono fun _ h=>h.elim:Fr (fun b=>lab b≠none) w1 w2).trans (hV.mono fun b hb=>by rcases hb with e|e<;>(rw [e];exact fun e=>by cases e)) fun b hb=> .inl hb)).2.2;have g0:=iY (P.sh i) vs k 0 m _ hm hvm dcd;have g1:=iY (P.sh i) vs k 1 m _ hm hvm dcd;have g2:=iY (P.sh i) vs k 2 m _ hm hvm dcd;have g3:=iY (P.sh i) vs k 3 m _ hm hvm dcd;have n4:=hn A0.rf.1 oy oy;have n5:=hn e5 oy oy;have nb:=hn (show lab br=some (30+i) from hbF) oy oy;exact ⟨hb.cell 3,(hV.cell (p:=⟨M.rf,i,none⟩) (A0.lt _ _ A0.rf.1) n4).trans (A0.rf.2 i hi2),hb.cell 4,(hV.cell (p:=⟨M.rs,i,none⟩) (A0.lt _ _ e5) n5).trans hc1,hg,(hV.cell (p:=⟨br,k*4,none⟩) hbl nb).trans ((hbc _ oy).trans g0),(hV.cell (p:=⟨br,k*4+1,none⟩) hbl nb).trans ((hbc _ oy).trans g1),(hV.cell (p:=⟨br,k*4+2,none⟩) hbl nb).trans ((hbc _ oy).trans g2),(hV.cell (p:=⟨br,k*4+3,none⟩) hbl nb).trans ((hbc _ oy).trans g3)⟩
  have d6:decide (0<L)=true:=decide_eq_true hL0;have hm4:M.cf≤maxLen:=A0.caps.2.2.2.1;have hm5:M.ch≤maxLen:=A0.caps.2.2.2.2.2.2.2;have ajo:∀b j,lab b=some j→b<w2.heap.size:=A0.lt;obtain ⟨m_e,m_s,m_b,m_c⟩:=m;obtain ⟨⟨r_e,r_a,r_o⟩,asn,t_s,t_g,t_c⟩:=t;simp only at hall htk;obtain ⟨ml,hml⟩:∃ml,ml=m_c.length:=⟨_,rfl⟩;rw [←hml] at hall htk;obtain ⟨HTK,HMO,HAL,HSt⟩:=fV htk hmod hall anb;have hl0:∀g,w2.heap.size≤g→¬(lab g≠none):=fun g hg e=>by
   cases hq:lab g with
   |none=>exact e hq
   |some j=>have:=ajo g j hq;omega
  obtain ⟨HLT,HL0⟩:=aN ajo hl0;clear htk hmod hall hSt anb hpick hk hbc hbF hom hvm hm abu ht amj hP1 q1 q2 q3 hsl hL hv1 hv2 hAr hz hvr A0 ajo hl0 hml
  go_upto_region 14 with fail
  clear c4 hc1;obtain ⟨c1,c2,c3,c4,c5,c6,c7,c8,c9⟩:=HAL.out _ (Fr.refl _ _)
  go_cut [8,9] from 78 to 108 (fun x y wx=>∃gH,x= .pointer (some ⟨gH,0,none⟩)∧y= .int .i64 0∧Blk wx gH THd #[.int .i64 r_e,.int .i64 r_a,.bool r_o]∧bP w2 lab M P1 wx)
  case first=>
   as_aux_lemma=>
   go_region_held3 (fun V=>V.cell? ⟨M.q,3,none⟩=some (.slice (some ⟨M.rf,0,none⟩) 2 M.cf)∧V.cell? ⟨M.rf,i,none⟩=some (.pointer (some ⟨M.fp i,0,none⟩))∧V.cell? ⟨M.q,4,none⟩=some (.slice (some ⟨M.rs,0,none⟩) 2 M.cs)∧V.cell? ⟨M.rs,i,none⟩=some (.slice (some ⟨br,0,none⟩) L cr)∧V.cell? ⟨g,2,none⟩=some (.int .i64 b)∧V.cell? ⟨br,k*4,none⟩=some (.int .i64 m_e)∧V.cell? ⟨br,k*4+1,none⟩=some (.int .i64 m_s)∧V.cell? ⟨br,k*4+2,none⟩=some (.int .i64 m_b)∧V.cell? ⟨br,k*4+3,none⟩=some (.slice Am ml cm)) ((refine HAL.out _ ?_;exact (by repeat (with_reducible first|assumption|exact Fr.refl _ _|refine Fr.alloc ?_ _|refine Fr.drew ?_|refine Fr.drewN ?_ _|refine Fr.setCell ?_ (.inr (by assumption)) _)))) (first
    |(go_at_call 9;refine (HMO.out _).mono ?_;rintro e w' ⟨rfl,rfl⟩)
    |(go_at_call 26;refine (HTK.out _ (by with_reducible ((repeat (first|assumption|exact Fr.refl _ _|refine Fr.alloc ?_ _|refine Fr.drew ?_|refine Fr.drewN ?_ _));done))).mono ?_;rintro e v4 ⟨rfl,Q4,R4,T4⟩;have hs4:=Q4.size;have hsB:w2.heap.size≤w2.heap.size:=Nat.le_refl _;have T4:=O T4;first|(have bk:Blk v4 w2.heap.size THd #[.int .i64 0,.int .i64 0,.bool false]:=Blk.fr (F:=fun b=>lab b≠none) (Blk.new w2.drew THd #[.int .i64 0,.int .i64 0,.bool false]) R4 (HL0.out _ (Nat.le_refl _));have u0:=bk.cell 0;have u1:=bk.cell 1;have u2:=bk.cell 2;have y0:=bk.frozen 0;have y1:=bk.frozen 1;have y2:=bk.frozen 2;simp only [List.getElem?_toArray,List.getElem?_cons_zero,List.getElem?_cons_succ] at u0 u1 u2)|skip))
   all_goals first
    |(have hq:=ng (((Fr.refl No w2).drew).alloc _) hsB (by simp) HLT.out T4.out bk (.int .i64 r_e) (.int .i64 r_a) (.bool r_o);clear u0 u1 u2 y0 y1 y2 bk;generalize World.setCell (World.setCell (World.setCell v4 _ _) _ _) _ _=W5 at hq ⊢)
    |(have hq:=kQ ((Fr.refl No w2).drew) HLT.out T4.out (.int .i64 r_e) (.int .i64 r_a) (.bool r_o);generalize World.alloc v4 _=W5 at hq ⊢)
   all_goals go_wp2_with fail
   all_goals go_meet
   all_goals exact ⟨_,rfl,rfl,hq⟩
  clear c1 c2 c3 c4 c5 c6 c7 c8 c9;obtain ⟨gH,rfl,rfl,b5,T5⟩:=hcut;have u0:=b5.cell 0;have u1:=b5.cell 1;have u2:=b5.cell 2;simp only [List.getElem?_toArray,List.getElem?_cons_zero,List.getElem?_cons_succ] at u0 u1 u2;have hb5:=b5.lt;have T5h:=O T5;obtain ⟨cZ,A5,e1,g1'⟩:=T5;obtain ⟨e6,vh,hh1,hh2⟩:=A5.rh;have hown:=hh2 i hi2;obtain ⟨Ah,ch,hvh,hAh⟩:=hown.form;have hc6:=hh1 i hi2;rw [hvh] at hc6 hown;have hl6:=A5.lt _ _ e6;have hq5:M.q<wc.heap.size:=A5.lt _ _ A5.q0;obtain ⟨D,hD⟩:∃D,D=(P1.hd i).length:=⟨_,rfl⟩;rw [←hD] at hc6 hown hdl;obtain ⟨c6,z6⟩:=hc6;have c5:=A5.blk.cell 5;simp only [prC,List.getElem?_toArray,List.getElem?_cons_zero,List.getElem?_cons_succ] at c5;have hkp:=fun V W' v' u (hV:Fr No wc V) (ha:aJ V 0 THd 3 (.slice Ah D ch) D (hdV (P1.hd i)) u 1 v' W')=>(by
   obtain ⟨o1,f1⟩:=(hown.au hV).appended ha;have n6:¬aT cZ (40+i) M.rh:=neK oy _ e6;have hl7:=nll hl6 hV.size;exact ⟨o1.form,(f1.cell (p:=⟨M.rh,i,none⟩) hl7 n6).trans ((hV.cell (p:=⟨M.rh,i,none⟩) hl6 id).trans c6),(f1.frozen (p:=⟨M.rh,i,none⟩) hl7 n6).trans ((hV.frozen (p:=⟨M.rh,i,none⟩) hl6 id).trans z6),(f1.cell (p:=⟨M.q,5,none⟩) (nll hq5 hV.size) (neK oy _ A5.q0)).trans ((hV.cell (p:=⟨M.q,5,none⟩) hq5 id).trans c5)⟩:(∃A cap,v' = .slice A (D+1) cap∧(A=none→D+1=0))∧W'.cell? ⟨M.rh,i,none⟩=some (.slice Ah D ch)∧W'.frozen? ⟨M.rh,i,none⟩=false∧W'.cell? ⟨M.q,5,none⟩=some (.slice (some ⟨M.rh,0,none⟩) 2 M.ch))
  have hfi:=fun V W' v' (hV:Fr No wc V) (ha:aJ V 0 THd 3 (.slice Ah D ch) D (hdV (P1.hd i)) [.int .i64 r_e,.int .i64 r_a,.bool r_o] 1 v' W')=>(T5h.out.then HLT.out fun l A=>A.xk hV hi2 (a:=⟨r_e,r_a,r_o⟩) c6 (by rw [←hD];exact ha):bP w2 lab M {P1 with hd:=fD P1.hd i (P1.hd i++[⟨r_e,r_a,r_o⟩])} (W'.setCell ⟨M.rh,i,none⟩ v'));have hor:=fun V (hV:Fr No wc V)=>(hown.au hV).1;obtain ⟨i1,amu,hz0,hz1,hz2⟩:=info_parts oJ;obtain ⟨HI1,HZ0,HZ1,HZ2,HOR,HKP,HFI⟩:=jo amu hz0 hz1 hz2 hor hkp hfi;clear amu hz0 hz1 hz2 hor hkp hfi hown hh1 hh2 hvh hAh hD A5 e1 g1' e6 b5 T5h
  go_upto_region 16 with fail
  go_region_law (refine aI _ (by rfl) (.tmp 122) (.tmp 124) _ (by rfl) 0 THd i1 _ 3 24 Tryz.underlying147 HI1.out HZ0.out HZ1.out HZ2.out rfl dcd (.slice Ah D ch) D (hdV (P1.hd i)) (by rfl) (HOR.out _ (((Fr.refl No wc).drew).alloc _)) (wc.heap.size+1) (some ⟨wc.heap.size,0,none⟩) 1 1 [.int .i64 r_e,.int .i64 r_a,.bool r_o] (by rfl) (fun h=>by cases h) (Rd.new wc.drew _ THd rfl) rfl (by simp [Value.oneCell']) mxl oy (Nat.zero_le _) ?_;intro v1 w8 happ;obtain ⟨⟨A1,cc1,rfl,-⟩,q2_,z2_,q4_⟩:=HKP.out _ _ _ _ (((Fr.refl No wc).drew).alloc _) happ;have HTO:=O (HFI.out _ _ _ (((Fr.refl No wc).drew).alloc _) happ);clear happ)
  all_goals go_wp2_with fail
  all_goals rw [←HI.out.1]
  all_goals go_meet
  all_goals rw [HSt.out]
  all_goals exact HTO.out
 case rest=>
  as_aux_lemma=>
  have hQo:iI (aQ P wh a b) (n+1):=step_ok HO.out oy wh a b;obtain ⟨Q,hQ⟩:∃Q,Q=aQ P wh a b:=⟨_,rfl⟩;rw [←hQ] at hQo hcut;have HQE:=O hQ;clear hQ;have agu:=O hcut;obtain ⟨dW,A2,e2,g2⟩:=hcut;have hack:∀V,Fr No wc V→Calls Tryz.prog 58 #[.pointer (some ⟨M.l,0,none⟩),.int .i64 (Q.home.h.length:Int)] V fun e w' =>∃ak',e= .returned (.int .i64 ak')∧Q.ak≤ak'∧ak'≤max Q.ak Q.home.h.length∧Fr (aT dW 2) wc w'∧bP wc dW M {Q with ak:=ak',pg:=Q.pg} w' :=by
   intro V hV;obtain ⟨D,hL,hR⟩:=(A2.still hV).lead;refine (nJ hL Q.home.h.length (by have:=hQo.hl;omega) hQo.lag).mono ?_;rintro e w' ⟨ak',rfl,h1,h2,h3,h4⟩;exact ⟨ak',rfl,h1,h2,(hV.mono fun _ h=>h.elim:Fr (aT dW 2) wc V).trans h4 fun b hb=> .inl hb,bP.base hV ((A2.still hV).jJ h3 hR h4)⟩
  have hlen:=fun V (hV:Fr No wc V)=>bQ (A2.still hV).home;have hcl:=fun V (hV:Fr (aT dW 2) wc V)=>aP (A2.blk.fr hV (neK dcd M.q A2.q0));have hfz:=fun V (hV:Fr (aT dW 2) wc V)=>(A2.blk.fr hV (neK dcd M.q A2.q0)).frozen 10;have hcs:∀(V:World) (u:Value),Fr (aT dW 2) wc V→(V.setCell ⟨M.q,10,none⟩ u).cell? ⟨M.q,0,none⟩=some (pp M.hp)∧(V.setCell ⟨M.q,10,none⟩ u).cell? ⟨M.q,1,none⟩=some (pp M.l):=fun V u hV=>by
   have hb:=(A2.blk.fr hV (neK dcd M.q A2.q0)).aC 10 u;exact ⟨hb.cell 0,hb.cell 1⟩
  have HCS:=O hcs;clear hcs;obtain ⟨c0,c1,c2,c3,c4,c5,c6,c7,c8,c9,c10⟩:=aP A2.blk;obtain ⟨AA,G2,QO,HACK,HLEN,HCL,HFZ⟩:=jo A2 (And.intro e2 g2) hQo hack hlen hcl hfz;clear A2 e2 g2 hQo hack hlen hcl hfz agu
  go_upto_region 21 with fail
  clear c0 c1 c2 c3 c4 c5 c6 c7 c8 c9 c10;obtain ⟨c0,c1,c2,c3,c4,c5,c6,c7,c8,c9,c10⟩:=HCL.out _ (Fr.refl _ _)
  go_region_held3 (fun V=>V.cell? ⟨M.q,0,none⟩=some (pp M.hp)∧V.cell? ⟨M.q,1,none⟩=some (pp M.l)) (first|(refine ⟨(HCL.out _ ?_).1,(HCL.out _ ?_).2.1⟩<;>(with_reducible ((repeat (first|assumption|exact Fr.refl _ _|refine Fr.alloc ?_ _|refine Fr.drew ?_|refine Fr.drewN ?_ _|refine Fr.setCell ?_ (.inr (Nat.le_refl _)) _));done)))|(refine HCS.out _ _ ?_;(with_reducible ((repeat (first|assumption|exact Fr.refl _ _|refine Fr.alloc ?_ _|refine Fr.drew ?_|refine Fr.drewN ?_ _|refine Fr.setCell ?_ (.inr (Nat.le_refl _)) _));done)))) (first
   |(go_at_call 16;refine (HLEN.out _ (by with_reducible ((repeat (first|assumption|exact Fr.refl _ _|refine Fr.alloc ?_ _|refine Fr.drew ?_|refine Fr.drewN ?_ _));done))).mono ?_;rintro e w' ⟨rfl,rfl⟩)
   |(go_at_call 58;refine (HACK.out _ (by with_reducible ((repeat (first|assumption|exact Fr.refl _ _|refine Fr.alloc ?_ _|refine Fr.drew ?_|refine Fr.drewN ?_ _));done))).mono ?_;rintro e v4 ⟨ak',rfl,L1,L2,Q4,Q5⟩;have z10:=HFZ.out _ Q4;have z11:=(HCL.out _ Q4).2.2.2.2.2.2.2.2.2.2;have K1:=O L1;have K2:=O L2;have K5:=O Q5;clear L1 L2 Q5))
  have hend:bP wc dW M {Q with ak:=ak',dS:=ak'} (v4.setCell ⟨M.q,10,none⟩ (.int .i64 ak')):=K5.out.then AA.out.lt fun akl A3=>A3.oD (nu:=Q.nu) (ac:=ak') (Blk.cv (A3.blk.aC 10 _) (by simp [prC])) ((Fr.refl (fun b=>b=M.q) v4).setCell (p:=⟨M.q,10,none⟩) (.inl rfl) _);clear c0 c1 c2 c3 c4 c5 c6 c7 c8 c9 c10 z10 z11 Q4 K5;generalize v4.setCell ⟨M.q,10,none⟩ (.int .i64 ak')=v5 at*;have HE:=O hend;obtain ⟨jP,A4,e4,g4⟩:=hend;have d1:decide (Q.dS≤ak')=true:=decide_eq_true (by have:=QO.out.ack;have:=K1.out;omega);have d2:decide (ak'≤(Q.home.h.length:Int))=true:=decide_eq_true (by have:=QO.out.ak1;have:=K2.out;omega);have hlen:=fun V (hV:Fr No v5 V)=>bQ (A4.still hV).home;have hcl:=fun V (hV:Fr No v5 V)=>(A4.still hV).blk;obtain ⟨c0,c1,c2,c3,c4,c5,c6,c7,c8,c9,c10⟩:=aP A4.blk;obtain ⟨HL4,HC4⟩:=aN hlen hcl;clear hlen hcl A4 e4 g4;simp only at c10
  go_upto_region 22 with fail
  go_region_held3 (fun V=>V.cell? ⟨M.q,0,none⟩=some (pp M.hp)∧V.cell? ⟨M.q,10,none⟩=some (.int .i64 ak')) ((refine ⟨(HC4.out _ ?_).cell 0,(HC4.out _ ?_).cell 10⟩<;>(with_reducible ((repeat (first|assumption|exact Fr.refl _ _|refine Fr.alloc ?_ _|refine Fr.drew ?_|refine Fr.drewN ?_ _|refine Fr.setCell ?_ (.inr (Nat.le_refl _)) _));done)))) (first
   |(go_at_call 16;refine (HL4.out _ (by with_reducible ((repeat (first|assumption|exact Fr.refl _ _|refine Fr.alloc ?_ _|refine Fr.drew ?_|refine Fr.drewN ?_ _));done))).mono ?_;rintro e w' ⟨rfl,rfl⟩))
  all_goals go_wp2_with fail
  all_goals go_ret
  all_goals rw [←HQE.out]
  all_goals refine ⟨ak',K1.out,K2.out,rfl,bP.base (F1.out.ah F2.out) (bP.chain G2.out.1 G2.out.2 ?_)⟩
  all_goals exact HE.out.then AA.out.lt fun al8 A5=>A5.self ((Fr.refl _ _).drew)
end Go.Proofs.YtodkhcbjpodgeaaGreat
