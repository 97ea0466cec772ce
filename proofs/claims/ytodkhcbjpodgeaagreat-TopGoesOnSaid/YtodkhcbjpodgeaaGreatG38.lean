/-
  A write.
-/
import Derived.Test.YtodkhcbjpodgeaaGreatG34
import Derived.Test.YtodkhcbjpodgeaaGreatG28
namespace Go.Proofs.YtodkhcbjpodgeaaGreat
open Go.ChangeShapes Go.WideShapes Go.ChangeAt Go.RowKit
set_option linter.unusedVariables false
set_option maxRecDepth 100000
set_option maxHeartbeats 4000000
section
set_option linter.unusedSimpArgs false
variable {w w' :World}{F G:Nat→Prop}
theorem Fr.gq {F:Nat→Prop}{a w:World}(h:Fr F a.drew w):Fr F a w:=⟨h.os,h.tape,h.output,h.size,h.block⟩
theorem qU {V:World}{g:Nat}{a b d v:Value}(h:Blk V g TRp #[a,b,d,v]):V.cell? ⟨g,0,none⟩=some a∧V.cell? ⟨g,1,none⟩=some b∧V.cell? ⟨g,2,none⟩=some d∧V.cell? ⟨g,3,none⟩=some v∧V.frozen? ⟨g,0,none⟩=false∧V.frozen? ⟨g,1,none⟩=false∧V.frozen? ⟨g,2,none⟩=false∧V.frozen? ⟨g,3,none⟩=false:=
 ⟨h.cell 0,h.cell 1,h.cell 2,h.cell 3,h.frozen 0,h.frozen 1,h.frozen 2,h.frozen 3⟩
def axf (w1:World)(r:Rp)(a:Value)(wx:World):Prop:=∃g,a= .pointer (some ⟨g,0,none⟩)∧w1.heap.size≤g∧Blk wx g TRp r.arr∧Fr No w1 wx
theorem bT {f:Func}(k:Nat){g:Nat}(r:Rp)(ts:Array Value){W:World}(hb:Blk W g TRp r.arr)(h2:ts[k]?.getD undef= .pointer (some ⟨g,0,none⟩))(hr:f.results= #[.cell k TRp]):(results f ts).run Tryz.prog W= .ok (.agg r.arr) W:=by
 obtain ⟨c0,c1,c2,c3⟩:=bZ hb
 simp [results,hr,go_sem,h2,c0,c1,c2,c3,Rp.arr]
theorem CTo.store {G:Nat→Prop}{p:Nat}{d:Kp}{w2 Z W:World}(hF:∀i,F i→i<w.heap.size)(h:CTo w2 F p d Z)(f1:Fr No w w2)(hg:∀i,G i→w.heap.size≤i∧i<w2.heap.size)(hW:Fr G Z W):CTo w F p d W:=by
 obtain ⟨F',hc,hs,hf⟩:=h;refine ⟨F',hc.fr hW (fun i hi e=> ?_),fun i hi=> ?_,((f1.mono fun _ h=>h.elim).trans hf fun i hi=> .inl hi).trans hW fun i hi=> .inr (hg i hi).1⟩
 ·obtain ⟨e1,e2⟩:=hg i e
  rcases hs i hi with h|h
  ·have:=hF i h;omega
  ·omega
 ·rcases hs i hi with h|h
  ·exact .inl h
  ·exact .inr (Nat.le_trans f1.size h)
theorem bE {Z:World}{g:Nat}(p z:Rp)(h:Blk Z g TRp z.arr):Blk (World.setCell (World.setCell (World.setCell (World.setCell Z ⟨g,0,none⟩ (.int .i64 p.er)) ⟨g,1,none⟩ (.int .i64 p.sq)) ⟨g,2,none⟩ (.int .i64 p.it)) ⟨g,3,none⟩ (.string p.vl)) g TRp p.arr:=by
 refine Blk.cv (Blk.aC (Blk.aC (Blk.aC (Blk.aC h 0 (.int .i64 p.er)) 1 (.int .i64 p.sq)) 2 (.int .i64 p.it)) 3 (.string p.vl)) ?_;simp only [Rp.arr,List.setIfInBounds_toArray,List.set_cons_zero,List.set_cons_succ]
set_option maxHeartbeats 8000000 in
theorem zK {p:Nat}{c:Kp}(h:aM w F p c)(r:Rq)(hk:r.ky.size≤maxLen)(hv:r.vl.size≤maxLen)(hop:r.op=2∨r.op=3∨r.op=4∨r.op=6)(hh:c.h.length≤1000000)(hi:c.nw.its.length≤1000000)(hl:c.nw.les.length≤1000000)(ep t:Int):
  Calls Tryz.prog 45 #[.pointer (some ⟨p,0,none⟩),.int .i64 ep,.int .i64 t,.agg r.arr] w fun e w' =>e= .returned (.agg (wrF c ep t r).1.arr)∧CTo w F p (wrF c ep t r).2 w' :=by
 have H:=O h;have aot:=fun V (hV:Fr No w V)=>alz (h.au hV) r hk hop hi hl ep t;obtain ⟨s,q,tt,g,Ah,ch,hcp,hnw,hgt⟩:=h.parts;clear hgt;obtain ⟨tn,cl,nm,op,it,ky,vl⟩:=r;simp only [Rq.arr] at*;obtain ⟨w1,hw1⟩:∃w1,w1=(w.alloc (.cells #[.int .i64 tn,.int .i64 cl,.int .i64 nm,.int .i64 op,.int .i64 it,.string ky,.string vl] TRq)).alloc (.cells #[.int .i64 0,.int .i64 0,.int .i64 0,.string ⟨#[]⟩] TRp):=⟨_,rfl⟩;obtain ⟨g1,hg1⟩:∃g1,g1=w.heap.size:=⟨_,rfl⟩;obtain ⟨g2,hg2⟩:∃g2,g2=w.heap.size+1:=⟨_,rfl⟩;have f1:Fr No w w1:=by rw [hw1];exact (aj _ _).alloc _
 have b1:Blk w1 g1 TRq (Rq.arr ⟨tn,cl,nm,op,it,ky,vl⟩):=by rw [hw1,hg1];exact (Blk.new _ _ _).fr (aj _ _) id
 have b2:Blk w1 g2 TRp rp0.arr:=by rw [hw1,hg2];exact Blk.newG _ _ _ (by simp)
 have hx:=fun V (hV:Fr No w1 V)=>(⟨hcp V (f1.ah hV),lN (b1.fr hV id)⟩:_∧_);simp only at hx;have aox:=fun V (hV:Fr No w1 V)=>xw (hnw V (f1.ah hV)).2.2 cl nm;have hga:w.heap.size≤g1:=by omega
 have hgb:w.heap.size≤g2:=by omega
 have hg1' :g1<w1.heap.size:=b1.lt;have aqy :g2<w1.heap.size:=b2.lt;have htg:=fun V (hV:Fr No (w1.alloc (.cells #[.int .i64 0,.int .i64 0,.int .i64 0,.string ⟨#[]⟩] TRp)) V)=>qU ((Blk.new w1 TRp #[.int .i64 0,.int .i64 0,.int .i64 0,.string ⟨#[]⟩]).fr hV id);have hWR:wrF c ep t ⟨tn,cl,nm,op,it,ky,vl⟩=if (findF c.nw.ss cl nm).2=0 then ((findF c.nw.ss cl nm).1,c) else if (findF c.nw.ss cl nm).2≠34 then (rpE (findF c.nw.ss cl nm).2,c) else if 4096≤c.h.length then (rpE 2,c) else if (opF c ep t ⟨tn,cl,nm,op,it,ky,vl⟩).2≠0 then (rpE (opF c ep t ⟨tn,cl,nm,op,it,ky,vl⟩).2,c) else if (aH c ⟨ep,(c.h.length:Int)+1,(opF c ep t ⟨tn,cl,nm,op,it,ky,vl⟩).1,cl,nm,it,ky,vl⟩).1≠0 then (rpE (aH c ⟨ep,(c.h.length:Int)+1,(opF c ep t ⟨tn,cl,nm,op,it,ky,vl⟩).1,cl,nm,it,ky,vl⟩).1,(aH c ⟨ep,(c.h.length:Int)+1,(opF c ep t ⟨tn,cl,nm,op,it,ky,vl⟩).1,cl,nm,it,ky,vl⟩).2) else ((findF (aH c ⟨ep,(c.h.length:Int)+1,(opF c ep t ⟨tn,cl,nm,op,it,ky,vl⟩).1,cl,nm,it,ky,vl⟩).2.nw.ss cl nm).1,(aH c ⟨ep,(c.h.length:Int)+1,(opF c ep t ⟨tn,cl,nm,op,it,ky,vl⟩).1,cl,nm,it,ky,vl⟩).2):=rfl
 generalize wrF c ep t ⟨tn,cl,nm,op,it,ky,vl⟩=WR at hWR ⊢;generalize findF c.nw.ss cl nm=fr at aox hWR;generalize opF c ep t ⟨tn,cl,nm,op,it,ky,vl⟩=OR at aot hWR;obtain ⟨ok,oe⟩:=OR;have happ:=fun V (hV:Fr No w V)=>oU (h.au hV) ⟨ep,(c.h.length:Int)+1,ok,cl,nm,it,ky,vl⟩ hk hv hh hi hl;simp only at happ aot hWR;generalize aH c ⟨ep,(c.h.length:Int)+1,ok,cl,nm,it,ky,vl⟩=AR at happ hWR;obtain ⟨ae,ad⟩:=AR;simp only at happ hWR;obtain ⟨⟨rer,rsq,rit,rvl⟩,fe⟩:=fr;simp only [Rp.arr] at aox;simp only at hWR;have hlt:=h.lt;obtain ⟨B1,B2⟩:=aN b1 b2;clear b1 b2 hcp hnw h;obtain ⟨au7,akz,HWR,HLT,HX,avh,HTG,HW1,HG1,HG2,F1⟩:=kP aot happ hWR hlt hx aox htg hw1 hg1 hg2 f1;clear aot happ hWR hlt hx aox htg hw1 hg1 hg2 f1
 go_in
 go_upto_region 1 with fail
 rw [←HG2.out,←HW1.out,←HG1.out];obtain ⟨⟨p0,p1,p2,p3,p4,p5,p6⟩,x0,x1,x2,x3,x4,x5,x6⟩:=HX.out w1 (Fr.refl _ _)
 go_cut [9,10] from 9 to 24 (fun a b wx=>b= .int .i64 fe∧axf w1 ⟨rer,rsq,rit,rvl⟩ a wx)
 case first=>
  go_region_held3 (fun V=>V.cell? ⟨p,5,none⟩=some (.pointer (some ⟨tt,0,none⟩))∧V.cell? ⟨g1,1,none⟩=some (.int .i64 cl)∧V.cell? ⟨g1,2,none⟩=some (.int .i64 nm)) ((refine ⟨(HX.out _ ?_).1.2.2.2.2.2.1,(HX.out _ ?_).2.2.1,(HX.out _ ?_).2.2.2.1⟩<;>(with_reducible ((repeat (first|assumption|exact Fr.refl _ _|refine Fr.alloc ?_ _|refine Fr.drew ?_|refine Fr.drewN ?_ _|refine Fr.setCell ?_ (.inr (Nat.le_refl _)) _));done)))) (first
   |(go_at_call 81;refine (avh.out _ (by with_reducible ((repeat (first|assumption|exact Fr.refl _ _|refine Fr.alloc ?_ _|refine Fr.drew ?_|refine Fr.drewN ?_ _));done))).mono ?_;rintro r2 v3 ⟨rfl,f3⟩;have Q3:Fr No w1 v3:=Fr.ah (by with_reducible ((repeat (first|assumption|exact Fr.refl _ _|refine Fr.alloc ?_ _|refine Fr.drew ?_|refine Fr.drewN ?_ _));done)) f3;first|(have hz_:=HTG.out v3 (Fr.gq f3);have hy_:=hz_;obtain ⟨y0_,y1_,y2_,y3_,u0_,u1_,u2_,u3_⟩:=hz_)|skip))
  all_goals (try go_wp2_with fail)
  all_goals go_meet
  all_goals first
   |exact ⟨rfl,_,rfl,Q3.size,Blk.new _ _ _,Q3.alloc _⟩
   |exact ⟨rfl,_,rfl,Nat.le_refl _,bE ⟨rer,rsq,rit,rvl⟩ rp0 ((Blk.new _ _ _).fr (Fr.gq f3) id),by (with_reducible ((repeat (first|assumption|exact Fr.refl _ _|refine Fr.alloc ?_ _|refine Fr.drew ?_|refine Fr.drewN ?_ _|refine Fr.setCell ?_ (.inr (Nat.le_refl _)) _));done))⟩
 obtain ⟨rfl,g9,rfl,ayo,b9,f9⟩:=hcut;obtain ⟨FC,F9,B9⟩:=bC (F1.out.ah f9) f9 b9;have b2c:=B2.out.fr f9 id;have B2C:=O b2c;have ax9:g9<wc.heap.size:=b9.lt;have av9:w.heap.size≤w1.heap.size:=F1.out.size;have av8:w1.heap.size≤wc.heap.size:=f9.size;obtain ⟨z0,z1,z2,z3⟩:=bZ b2c;simp only [rp0] at z0 z1 z2 z3;have q0:=b2c.frozen 0;have q1:=b2c.frozen 1;have q2:=b2c.frozen 2;have q3:=b2c.frozen 3;obtain ⟨v0,v1,v2,v3⟩:=bZ b9;simp only at v0 v1 v2 v3;clear p0 p1 p2 p3 p4 p5 p6 x0 x1 x2 x3 x4 x5 x6 f9 b9 b2c avh HTG B2;have adh:∀(u:Rp),CTo w F p c (World.setCell (World.setCell (World.setCell (World.setCell wc ⟨g2,0,none⟩ (.int .i64 u.er)) ⟨g2,1,none⟩ (.int .i64 u.sq)) ⟨g2,2,none⟩ (.int .i64 u.it)) ⟨g2,3,none⟩ (.string u.vl)):=fun u=>
  CTo.same H.out (H:=fun i=>w.heap.size≤i) ((FC.out.mono fun _ h=>h.elim).trans (dI _ _ _ _) fun i hi=> .inl oy) (fun _ h=>h)
 have HS:=O adh;clear adh
 cases d1:fe == 0
 rotate_left
 ·obtain rfl:fe=0:=by simpa using d1
  have HQ:=O (HWR.out.trans (if_pos rfl))
  go_wp2_with fail
  exact bodyPost_ret (v:= .agg (Rp.arr ⟨rer,rsq,rit,rvl⟩)) (bT 8 _ _ (bE ⟨rer,rsq,rit,rvl⟩ rp0 B2C.out) rfl rfl) rfl ⟨by rw [HQ.out],by rw [HQ.out];exact HS.out ⟨rer,rsq,rit,rvl⟩⟩
 have HW2:=O (HWR.out.trans (if_neg (by simpa using d1)));clear HWR
 cases d2:fe == 34
 ·have HQ:=O (HW2.out.trans (if_pos (by simpa using d2)))
  have dn:(fe != 34)=true:=by simp only [bne,d2];rfl
  go_wp2_with fail
  exact bodyPost_ret (v:= .agg (Rp.arr (rpE fe))) (bT 8 _ _ (bE (rpE fe) rp0 B2C.out) rfl rfl) rfl ⟨by rw [HQ.out],by rw [HQ.out];exact HS.out (rpE fe)⟩
 obtain rfl:fe=34:=by simpa using d2
 have HW3:=O (HW2.out.trans (if_neg dcd));clear HW2 d1 d2
 go_wp2_with fail
 refine (bQ (H.out.au FC.out)).mono ?_;rintro e v4 ⟨rfl,rfl⟩
 by_cases hz:4096≤c.h.length
 ·have hzi:(4096:Int)≤(c.h.length:Int):=by omega
  have HQ:=O (HW3.out.trans (if_pos hz))
  go_wp2_with fail
  exact bodyPost_ret (v:= .agg (Rp.arr (rpE 2))) (bT 8 _ _ (bE (rpE 2) rp0 B2C.out) rfl rfl) rfl ⟨by rw [HQ.out],by rw [HQ.out];exact HS.out (rpE 2)⟩
 have hzi:(c.h.length:Int)<4096:=by omega
 have HW4:=O (HW3.out.trans (if_neg hz));clear HW3 hz;obtain ⟨⟨p0,p1,p2,p3,p4,p5,p6⟩,x0,x1,x2,x3,x4,x5,x6⟩:=HX.out v4 F9.out
 go_wp2_with fail
 refine (au7.out _ FC.out).mono ?_;rintro e v5 ⟨rfl,f5⟩;obtain ⟨F5,FC5,F95⟩:=bC f5 (FC.out.ah f5) (F9.out.ah f5);have b25:=B2C.out.fr f5 id;obtain ⟨B25,B95⟩:=aN b25 (B9.out.fr f5 id);have hsz5:v4.heap.size≤v5.heap.size:=f5.size;clear f5 p0 p1 p2 p3 p4 p5 p6 x0 x1 x2 x3 x4 x5 x6 z0 z1 z2 z3 q0 q1 q2 q3 v0 v1 v2 v3 au7 B2C HS;obtain ⟨z0,z1,z2,z3⟩:=bZ b25;simp only [rp0] at z0 z1 z2 z3;have q0:=b25.frozen 0;have q1:=b25.frozen 1;have q2:=b25.frozen 2;have q3:=b25.frozen 3;clear b25
 cases d3:oe == 0
 ·have HQ:=O (HW4.out.trans (if_pos (by simpa using d3)))
  have dn:(oe != 0)=true:=by simp only [bne,d3];rfl
  go_wp2_with fail
  exact bodyPost_ret (v:= .agg (Rp.arr (rpE oe))) (bT 8 _ _ (bE (rpE oe) rp0 B25.out) rfl rfl) rfl ⟨by rw [HQ.out],by rw [HQ.out];exact CTo.same H.out (H:=fun i=>w.heap.size≤i) ((FC5.out.mono fun _ h=>h.elim).trans (dI _ _ _ _) fun i hi=> .inl oy) (fun _ h=>h)⟩
 obtain rfl:oe=0:=by simpa using d3
 have HW5:=O (HW4.out.trans (if_neg (by simp)));clear HW4 d3
 go_upto_region 10 with fail
 obtain ⟨⟨p0,p1,p2,p3,p4,p5,p6⟩,x0,x1,x2,x3,x4,x5,x6⟩:=HX.out v5 F95.out;have hxr:∀V,Fr F v5 V→(V.cell? ⟨g1,1,none⟩=some (.int .i64 cl)∧V.cell? ⟨g1,2,none⟩=some (.int .i64 nm)∧V.cell? ⟨g1,4,none⟩=some (.int .i64 it)∧V.cell? ⟨g1,5,none⟩=some (.string ky)∧V.cell? ⟨g1,6,none⟩=some (.string vl)):=fun V hV=>
  have hn:∀b,b<v5.heap.size→g1=b→¬F b:=fun b _ e h=>by have:=HLT.out b h;omega
  have hg:g1<v5.heap.size:=by omega
  ⟨(hV.cell (p:=⟨g1,1,none⟩) hg (hn g1 hg rfl)).trans x1,(hV.cell (p:=⟨g1,2,none⟩) hg (hn g1 hg rfl)).trans x2,(hV.cell (p:=⟨g1,4,none⟩) hg (hn g1 hg rfl)).trans x4,(hV.cell (p:=⟨g1,5,none⟩) hg (hn g1 hg rfl)).trans x5,(hV.cell (p:=⟨g1,6,none⟩) hg (hn g1 hg rfl)).trans x6⟩
 have HXR:=O hxr;have hwr:IntKind.i64.wrap ((c.h.length:Int)+1)=(c.h.length:Int)+1:=IntWalk.i64_in _ oy;have HLEN:=O (fun V (hV:Fr No v5 V)=>bQ (H.out.au (FC5.out.ah hV)));clear hxr
 go_region_held3 (fun V=>V.cell? ⟨g1,1,none⟩=some (.int .i64 cl)∧V.cell? ⟨g1,2,none⟩=some (.int .i64 nm)∧V.cell? ⟨g1,4,none⟩=some (.int .i64 it)∧V.cell? ⟨g1,5,none⟩=some (.string ky)∧V.cell? ⟨g1,6,none⟩=some (.string vl)) ((refine HXR.out _ ?_;(with_reducible ((repeat (first|assumption|exact Fr.refl _ _|refine Fr.alloc ?_ _|refine Fr.drew ?_|refine Fr.drewN ?_ _|refine Fr.setCell ?_ (.inr (Nat.le_refl _)) _));done)))) (first
  |(go_at_call 16;refine (HLEN.out _ (by with_reducible ((repeat (first|assumption|exact Fr.refl _ _|refine Fr.alloc ?_ _|refine Fr.drew ?_|refine Fr.drewN ?_ _));done))).mono ?_;rintro r2 v6 ⟨rfl,rfl⟩)
  |(go_at_call 52;refine (akz.out _ (FC5.out.ah (by with_reducible ((repeat (first|assumption|exact Fr.refl _ _|refine Fr.alloc ?_ _|refine Fr.drew ?_|refine Fr.drewN ?_ _));done)))).mono ?_;rintro r2 v7 ⟨rfl,hc7⟩;have Q7:Fr F v5 v7:=(by obtain ⟨_,_,_,hq⟩:=hc7;exact Fr.gq hq)))
 have HC7:=O hc7;have hnF:∀b,w.heap.size≤b→¬F b:=fun b hb h=>by have:=HLT.out b h;omega
 have HNF:=O hnF;have b27:=B25.out.fr Q7 (hnF g2 hgb);have b97:=B95.out.fr Q7 (hnF g9 oy);obtain ⟨B27,B97,Q7H⟩:=bC b27 b97 Q7;clear p0 p1 p2 p3 p4 p5 p6 x0 x1 x2 x3 x4 x5 x6 z0 z1 z2 z3 q0 q1 q2 q3 akz HLEN hc7 Q7 hnF hwr B25 B95;obtain ⟨z0,z1,z2,z3⟩:=bZ b27;simp only [rp0] at z0 z1 z2 z3;have q0:=b27.frozen 0;have q1:=b27.frozen 1;have q2:=b27.frozen 2;have q3:=b27.frozen 3;clear b27 b97
 cases d4:ae == 0
 ·have HQ:=O (HW5.out.trans (if_pos (by simpa using d4)))
  have dn:(ae != 0)=true:=by simp only [bne,d4];rfl
  go_wp2_with fail
  exact bodyPost_ret (v:= .agg (Rp.arr (rpE ae))) (bT 8 _ _ (bE (rpE ae) rp0 B27.out) rfl rfl) rfl ⟨by rw [HQ.out],by rw [HQ.out];exact CTo.store HLT.out HC7.out (FC5.out.drew) (fun i e=>by subst e;exact ⟨hgb,by show i<v5.heap.size;omega⟩) (dI _ _ _ _)⟩
 obtain rfl:ae=0:=by simpa using d4
 have HW6:=O (HW5.out.trans (if_neg (by simp)));clear HW5 d4 z0 z1 z2 z3 q0 q1 q2 q3;obtain ⟨F',hcF,hsF,hfF⟩:=HC7.out;obtain ⟨s',q',t',g',Ah',ch',at7,as8,awn⟩:=hcF.parts;have hpw:p<w.heap.size:=HLT.out p H.out.fp;have HF2:=O (fun V (hV:Fr No v7 V)=>xw (as8 V hV).2.2 cl nm);generalize findF ad.nw.ss cl nm=fr2 at HF2 HW6;obtain ⟨⟨er8,sq8,it8,vl8⟩,fe8⟩:=fr2;simp only [Rp.arr] at HF2;simp only at HW6;have c5' :=(at7 v7 (Fr.refl _ _)).2.2.2.2.2.1;obtain ⟨x1,x2,_,_,_⟩:=HXR.out v7 Q7H.out;have ayb:v5.heap.size≤v7.heap.size:=Q7H.out.size;have hS2:∀V,Fr (fun i=>i=g9) v7 V→(V.cell? ⟨p,5,none⟩=some (.pointer (some ⟨t',0,none⟩))∧V.cell? ⟨g1,1,none⟩=some (.int .i64 cl)∧V.cell? ⟨g1,2,none⟩=some (.int .i64 nm)):=fun V hV=>
  ⟨(hV.cell (p:=⟨p,5,none⟩) (by show p<_;omega) (by show ¬p=g9;omega)).trans c5',(hV.cell (p:=⟨g1,1,none⟩) (by show g1<_;omega) (by show ¬g1=g9;omega)).trans x1,(hV.cell (p:=⟨g1,2,none⟩) (by show g1<_;omega) (by show ¬g1=g9;omega)).trans x2⟩
 obtain ⟨HS2,HT9⟩:=aN hS2 (fun V (hV:Fr No v7 V)=>qU (B97.out.fr hV id));clear hcF hsF hfF at7 as8 awn hS2
 go_upto_region 13 with fail
 go_region_held3 (fun V=>V.cell? ⟨p,5,none⟩=some (.pointer (some ⟨t',0,none⟩))∧V.cell? ⟨g1,1,none⟩=some (.int .i64 cl)∧V.cell? ⟨g1,2,none⟩=some (.int .i64 nm)) ((refine HS2.out _ ?_;(with_reducible (repeat (refine Fr.rz ?_ _ _)));refine toG ?_;(with_reducible ((repeat (first|assumption|exact Fr.refl _ _|refine Fr.alloc ?_ _|refine Fr.drew ?_|refine Fr.drewN ?_ _|refine Fr.setCell ?_ (.inr (Nat.le_refl _)) _));done)))) (first
  |(go_at_call 81;refine (HF2.out _ (by with_reducible ((repeat (first|assumption|exact Fr.refl _ _|refine Fr.alloc ?_ _|refine Fr.drew ?_|refine Fr.drewN ?_ _));done))).mono ?_;rintro r2 v8 ⟨rfl,f8⟩;have Q8:Fr No v7 v8:=Fr.ah (by with_reducible ((repeat (first|assumption|exact Fr.refl _ _|refine Fr.alloc ?_ _|refine Fr.drew ?_|refine Fr.drewN ?_ _));done)) f8;obtain ⟨y0_,y1_,y2_,y3_,u0_,u1_,u2_,u3_⟩:=HT9.out v8 Q8))
 obtain ⟨W8,hW8⟩:∃W8,W8=(World.setCell (World.setCell (World.setCell (World.setCell v8 ⟨g9,0,none⟩ (.int .i64 er8)) ⟨g9,1,none⟩ (.int .i64 sq8)) ⟨g9,2,none⟩ (.int .i64 it8)) ⟨g9,3,none⟩ (.string vl8)):=⟨_,rfl⟩;rw [←hW8];have b98:Blk W8 g9 TRp (Rp.arr ⟨er8,sq8,it8,vl8⟩):=by rw [hW8];exact bE ⟨er8,sq8,it8,vl8⟩ _ (B97.out.fr Q8 id)
 have f78:Fr (fun i=>i=g9) v7 W8:=by rw [hW8];exact (toG Q8).trans (dI _ _ _ _) (fun i h=> .inl h)
 have b28:=B27.out.fr f78 (by show ¬g2=g9;omega);obtain ⟨F78,B28⟩:=aN f78 b28;obtain ⟨z0,z1,z2,z3⟩:=bZ b28;simp only [rp0] at z0 z1 z2 z3;have q0:=b28.frozen 0;have q1:=b28.frozen 1;have q2:=b28.frozen 2;have q3:=b28.frozen 3;obtain ⟨v0,v1,v2,v3⟩:=bZ b98;simp only at v0 v1 v2 v3;clear hW8 y0_ y1_ y2_ y3_ u0_ u1_ u2_ u3_ x1 x2 c5' b28 b98 f78 Q8 HF2 HS2 HT9 HXR f8
 go_wp2_with fail
 refine bodyPost_ret (v:= .agg (Rp.arr ⟨er8,sq8,it8,vl8⟩)) (bT 8 _ _ (bE ⟨er8,sq8,it8,vl8⟩ rp0 B28.out) rfl rfl) rfl ⟨by rw [HW6.out],?_⟩;rw [HW6.out];exact CTo.store (G:=fun i=>i=g9∨i=g2) HLT.out HC7.out (FC5.out.drew) (fun i e=>by
  show _∧i<v5.heap.size
  rcases e with e|e<;>omega) ((F78.out.mono fun _ h=> .inl h).trans ((dI _ _ _ _).mono fun _ h=> .inr h) fun i h=> .inl h)
end
section
set_option linter.unusedSimpArgs false
variable {w w' :World}{F G:Nat→Prop}
def It.v (x:It):Value:= .agg #[.int .i64 x.nm,.string x.vl]
def pU (o:Option It):It:=o.getD ⟨0,noS⟩
def pV (o:Option It):Int:=if o.isSome then 0 else 34
def ari (c:Kp)(cl ep t:Int):Prop:=∀(V:World) (F:Nat→Prop) (q:Nat),aV V F q c.nw.its c.nw.les c.nw.gr→(∀i,F i→i<V.heap.size)→
 Calls Tryz.prog 44 #[.pointer (some ⟨q,0,none⟩),.int .i64 cl,.int .i64 ep,.int .i64 t,.int .i64 20] V fun e W=>∃l:Le,e= .returned (.tuple #[It.v (pU (nP c.nw cl ep t).1),.agg #[.int .i64 l.it,.int .i64 l.cl,.int .i64 l.ep,.int .i64 l.un],.int .i64 (pV (nP c.nw cl ep t).1)])∧aro V F q c.nw.its (nP c.nw cl ep t).2 c.nw.gr W
abbrev obI:Obj:= .cells #[.int .i64 0,.string ⟨#[]⟩] TIt
abbrev obL:Obj:= .cells #[.int .i64 0,.int .i64 0,.int .i64 0,.int .i64 0] TLe
theorem xg {V:World}{g:Nat}{a b:Value}(h:Blk V g TIt #[a,b]):V.cell? ⟨g,0,none⟩=some a∧V.cell? ⟨g,1,none⟩=some b∧V.frozen? ⟨g,0,none⟩=false∧V.frozen? ⟨g,1,none⟩=false:=⟨h.cell 0,h.cell 1,h.frozen 0,h.frozen 1⟩
theorem abb {V:World}{g:Nat}{a b d e:Value}(h:Blk V g TLe #[a,b,d,e]):V.cell? ⟨g,0,none⟩=some a∧V.cell? ⟨g,1,none⟩=some b∧V.cell? ⟨g,2,none⟩=some d∧V.cell? ⟨g,3,none⟩=some e∧V.frozen? ⟨g,0,none⟩=false∧V.frozen? ⟨g,1,none⟩=false∧V.frozen? ⟨g,2,none⟩=false∧V.frozen? ⟨g,3,none⟩=false:=⟨h.cell 0,h.cell 1,h.cell 2,h.cell 3,h.frozen 0,h.frozen 1,h.frozen 2,h.frozen 3⟩
theorem toAny {P:Nat→Prop}(h:Fr No w w'):Fr P w w' :=h.mono fun _ h=>h.elim
theorem wQ {Q:Nat→Prop}{a b:World}{o:Obj}(h:Fr Q (a.alloc o).drew b):a.heap.size<b.heap.size:=by have:=h.size;have h2:(a.alloc o).drew.heap.size=a.heap.size+1:=World.size_alloc a o;omega
def ahx (v5:World)(Q:Nat→Prop)(q:Nat)(its:List It)(les:List Le)(gr:Int)(x:It)(a:Value)(wx:World):Prop:=
 ∃g,a= .pointer (some ⟨g,0,none⟩)∧Blk wx g TIt #[.int .i64 x.nm,.string x.vl]∧aV wx (fun i=>Q i∨v5.heap.size≤i) q its les gr∧Fr Q v5 wx
theorem xW {v5 V v6 X:World}{Q:Nat→Prop}{q g:Nat}{its:List It}{les:List Le}{gr:Int}(x:It)(n:Nat)(hn:V.heap.size=v5.heap.size+n)(hq:aV v6 (fun i=>Q i∨V.heap.size≤i) q its les gr)(hf:Fr Q V v6)(hV:Fr No v5 V)(hQ:∀i,Q i→i<v5.heap.size)
  (hb:Blk X g TIt #[.int .i64 x.nm,.string x.vl]) (hX:Fr (fun i=>v5.heap.size≤i∧i<v5.heap.size+n) v6 X):ahx v5 Q q its les gr x (.pointer (some ⟨g,0,none⟩)) X:=by
 refine ⟨g,rfl,hb,(hq.le.fr hX ?_).mono ?_,(((hV.mono fun _ h=>h.elim).trans hf fun i h=> .inl h).trans hX fun i h=> .inr h.1)⟩
 ·rintro i ⟨h1|h1,h2⟩ ⟨h3,h4⟩
  ·have:=hQ i h1;omega
  ·omega
 ·rintro i ⟨h1|h1,h2⟩
  ·exact .inl h1
  ·exact .inr (Nat.le_trans hV.size h1)
theorem mY {Z:World}{g:Nat}{a b:Value}(n:Int)(v:ByteArray)(h:Blk Z g TIt #[a,b]):Blk ((Z.setCell ⟨g,0,none⟩ (.int .i64 n)).setCell ⟨g,1,none⟩ (.string v)) g TIt #[.int .i64 n,.string v]:=by
 refine Blk.cv (Blk.aC (Blk.aC h 0 _) 1 _) ?_
 simp
theorem avt {v5 v6:World}{Q:Nat→Prop}{q:Nat}{its:List It}{les:List Le}{gr xn:Int}{xv:ByteArray}{a b d e:Value}(hq6:aV v6 (fun i=>Q i∨(v5.drew).heap.size≤i) q its les gr)(f6:Fr Q (v5.drew) v6)(hQ:∀i,Q i→i<v5.heap.size)(hna:¬Q v5.heap.size)(hnb:¬Q (v5.heap.size+1)):
  ahx v5 Q q its les gr ⟨xn,xv⟩ (.pointer (some ⟨v6.heap.size,0,none⟩)) ((v6.alloc (.cells #[.int .i64 xn,.string xv] TIt)).alloc (.cells #[a,b,d,e] TLe)):=by
 have hV:Fr No v5 (v5.drew):=(by with_reducible ((repeat (first|assumption|exact Fr.refl _ _|refine Fr.alloc ?_ _|refine Fr.drew ?_|refine Fr.drewN ?_ _));done));have hsz:(v5.drew).heap.size=v5.heap.size+0:=rfl;have hb:Blk ((v6.alloc (.cells #[.int .i64 xn,.string xv] TIt)).alloc (.cells #[a,b,d,e] TLe)) (v6.heap.size) TIt #[.int .i64 xn,.string xv]:=((Blk.new v6 TIt _).fr (aj _ _) id);exact xW ⟨xn,xv⟩ 0 hsz hq6 f6 hV hQ hb (by (repeat (with_reducible first|exact Fr.refl _ _|refine Fr.alloc ?_ _|refine Fr.setCell ?_ (.inl ⟨?_,?_⟩) _));all_goals (first|exact Nat.le_refl _|exact Nat.le_succ _|exact Nat.lt_succ_self _|exact Nat.lt_add_of_pos_right dcd))
theorem avs {v5 v6:World}{Q:Nat→Prop}{q:Nat}{its:List It}{les:List Le}{gr xn:Int}{xv:ByteArray}{a b d e:Value}(hq6:aV v6 (fun i=>Q i∨(v5.drew).heap.size≤i) q its les gr)(f6:Fr Q (v5.drew) v6)(hQ:∀i,Q i→i<v5.heap.size)(hna:¬Q v5.heap.size)(hnb:¬Q (v5.heap.size+1)):
  ahx v5 Q q its les gr ⟨xn,xv⟩ (.pointer (some ⟨v6.heap.size+1,0,none⟩)) ((v6.alloc (.cells #[a,b,d,e] TLe)).alloc (.cells #[.int .i64 xn,.string xv] TIt)):=by
 have hV:Fr No v5 (v5.drew):=(by with_reducible ((repeat (first|assumption|exact Fr.refl _ _|refine Fr.alloc ?_ _|refine Fr.drew ?_|refine Fr.drewN ?_ _));done));have hsz:(v5.drew).heap.size=v5.heap.size+0:=rfl;have hb:Blk ((v6.alloc (.cells #[a,b,d,e] TLe)).alloc (.cells #[.int .i64 xn,.string xv] TIt)) (v6.heap.size+1) TIt #[.int .i64 xn,.string xv]:=(Blk.newG _ TIt _ (World.size_alloc _ _).symm);exact xW ⟨xn,xv⟩ 0 hsz hq6 f6 hV hQ hb (by (repeat (with_reducible first|exact Fr.refl _ _|refine Fr.alloc ?_ _|refine Fr.setCell ?_ (.inl ⟨?_,?_⟩) _));all_goals (first|exact Nat.le_refl _|exact Nat.le_succ _|exact Nat.lt_succ_self _|exact Nat.lt_add_of_pos_right dcd))
theorem avr {v5 v6:World}{Q:Nat→Prop}{q:Nat}{its:List It}{les:List Le}{gr xn:Int}{xv:ByteArray}{a b d e:Value}(hq6:aV v6 (fun i=>Q i∨((v5.alloc obI).drew).heap.size≤i) q its les gr)(f6:Fr Q ((v5.alloc obI).drew) v6)(hQ:∀i,Q i→i<v5.heap.size)(hna:¬Q v5.heap.size)(hnb:¬Q (v5.heap.size+1)):
  ahx v5 Q q its les gr ⟨xn,xv⟩ (.pointer (some ⟨v5.heap.size,0,none⟩)) ((World.setCell (World.setCell v6 ⟨v5.heap.size,0,none⟩ (.int .i64 xn)) ⟨v5.heap.size,1,none⟩ (.string xv)).alloc (.cells #[a,b,d,e] TLe)):=by
 have hV:Fr No v5 ((v5.alloc obI).drew):=(by with_reducible ((repeat (first|assumption|exact Fr.refl _ _|refine Fr.alloc ?_ _|refine Fr.drew ?_|refine Fr.drewN ?_ _));done));have hsz:((v5.alloc obI).drew).heap.size=v5.heap.size+1:=(World.size_alloc _ _);have hb:Blk ((World.setCell (World.setCell v6 ⟨v5.heap.size,0,none⟩ (.int .i64 xn)) ⟨v5.heap.size,1,none⟩ (.string xv)).alloc (.cells #[a,b,d,e] TLe)) (v5.heap.size) TIt #[.int .i64 xn,.string xv]:=((mY xn xv ((Blk.new v5 TIt _).fr (Fr.gq f6) hna)).fr (aj _ _) id);exact xW ⟨xn,xv⟩ 1 hsz hq6 f6 hV hQ hb (by (repeat (with_reducible first|exact Fr.refl _ _|refine Fr.alloc ?_ _|refine Fr.setCell ?_ (.inl ⟨?_,?_⟩) _));all_goals (first|exact Nat.le_refl _|exact Nat.le_succ _|exact Nat.lt_succ_self _|exact Nat.lt_add_of_pos_right dcd))
theorem avq {v5 v6:World}{Q:Nat→Prop}{q:Nat}{its:List It}{les:List Le}{gr xn:Int}{xv:ByteArray}{a b d e:Value}(hq6:aV v6 (fun i=>Q i∨(((v5.alloc obI).alloc obL).drew).heap.size≤i) q its les gr)(f6:Fr Q (((v5.alloc obI).alloc obL).drew) v6)(hQ:∀i,Q i→i<v5.heap.size)(hna:¬Q v5.heap.size)(hnb:¬Q (v5.heap.size+1)):
  ahx v5 Q q its les gr ⟨xn,xv⟩ (.pointer (some ⟨v5.heap.size,0,none⟩)) (World.setCell (World.setCell (World.setCell (World.setCell (World.setCell (World.setCell v6 ⟨v5.heap.size,0,none⟩ (.int .i64 xn)) ⟨v5.heap.size,1,none⟩ (.string xv)) ⟨v5.heap.size+1,0,none⟩ (a)) ⟨v5.heap.size+1,1,none⟩ (b)) ⟨v5.heap.size+1,2,none⟩ (d)) ⟨v5.heap.size+1,3,none⟩ (e)):=by
 have hV:Fr No v5 (((v5.alloc obI).alloc obL).drew):=(by with_reducible ((repeat (first|assumption|exact Fr.refl _ _|refine Fr.alloc ?_ _|refine Fr.drew ?_|refine Fr.drewN ?_ _));done));have hsz:(((v5.alloc obI).alloc obL).drew).heap.size=v5.heap.size+2:=(by show (World.alloc _ _).heap.size=_;rw [World.size_alloc,World.size_alloc]);have hb:Blk (World.setCell (World.setCell (World.setCell (World.setCell (World.setCell (World.setCell v6 ⟨v5.heap.size,0,none⟩ (.int .i64 xn)) ⟨v5.heap.size,1,none⟩ (.string xv)) ⟨v5.heap.size+1,0,none⟩ (a)) ⟨v5.heap.size+1,1,none⟩ (b)) ⟨v5.heap.size+1,2,none⟩ (d)) ⟨v5.heap.size+1,3,none⟩ (e)) (v5.heap.size) TIt #[.int .i64 xn,.string xv]:=((mY xn xv (((Blk.new v5 TIt _).fr (aj _ obL) id).fr (Fr.gq f6) hna)).fr (dI (g:=v5.heap.size+1) _ _ _ _) (fun h=>absurd h (Nat.ne_of_lt (Nat.lt_succ_self _))));exact xW ⟨xn,xv⟩ 2 hsz hq6 f6 hV hQ hb (by (repeat (with_reducible first|exact Fr.refl _ _|refine Fr.alloc ?_ _|refine Fr.setCell ?_ (.inl ⟨?_,?_⟩) _));all_goals (first|exact Nat.le_refl _|exact Nat.le_succ _|exact Nat.lt_succ_self _|exact Nat.lt_add_of_pos_right dcd))
theorem avp {v5 v6:World}{Q:Nat→Prop}{q:Nat}{its:List It}{les:List Le}{gr xn:Int}{xv:ByteArray}{a b d e:Value}(hq6:aV v6 (fun i=>Q i∨((v5.alloc obL).drew).heap.size≤i) q its les gr)(f6:Fr Q ((v5.alloc obL).drew) v6)(hQ:∀i,Q i→i<v5.heap.size)(hna:¬Q v5.heap.size)(hnb:¬Q (v5.heap.size+1)):
  ahx v5 Q q its les gr ⟨xn,xv⟩ (.pointer (some ⟨v6.heap.size,0,none⟩)) ((World.setCell (World.setCell (World.setCell (World.setCell v6 ⟨v5.heap.size,0,none⟩ (a)) ⟨v5.heap.size,1,none⟩ (b)) ⟨v5.heap.size,2,none⟩ (d)) ⟨v5.heap.size,3,none⟩ (e)).alloc (.cells #[.int .i64 xn,.string xv] TIt)):=by
 have hV:Fr No v5 ((v5.alloc obL).drew):=(by with_reducible ((repeat (first|assumption|exact Fr.refl _ _|refine Fr.alloc ?_ _|refine Fr.drew ?_|refine Fr.drewN ?_ _));done));have hsz:((v5.alloc obL).drew).heap.size=v5.heap.size+1:=(World.size_alloc _ _);have hb:Blk ((World.setCell (World.setCell (World.setCell (World.setCell v6 ⟨v5.heap.size,0,none⟩ (a)) ⟨v5.heap.size,1,none⟩ (b)) ⟨v5.heap.size,2,none⟩ (d)) ⟨v5.heap.size,3,none⟩ (e)).alloc (.cells #[.int .i64 xn,.string xv] TIt)) (v6.heap.size) TIt #[.int .i64 xn,.string xv]:=(Blk.newG _ TIt _ (by simp [World.setCell]));exact xW ⟨xn,xv⟩ 1 hsz hq6 f6 hV hQ hb (by (repeat (with_reducible first|exact Fr.refl _ _|refine Fr.alloc ?_ _|refine Fr.setCell ?_ (.inl ⟨?_,?_⟩) _));all_goals (first|exact Nat.le_refl _|exact Nat.le_succ _|exact Nat.lt_succ_self _|exact Nat.lt_add_of_pos_right dcd))
theorem avo {v5 v6:World}{Q:Nat→Prop}{q:Nat}{its:List It}{les:List Le}{gr xn:Int}{xv:ByteArray}{a b d e:Value}(hq6:aV v6 (fun i=>Q i∨(((v5.alloc obL).alloc obI).drew).heap.size≤i) q its les gr)(f6:Fr Q (((v5.alloc obL).alloc obI).drew) v6)(hQ:∀i,Q i→i<v5.heap.size)(hna:¬Q v5.heap.size)(hnb:¬Q (v5.heap.size+1)):
  ahx v5 Q q its les gr ⟨xn,xv⟩ (.pointer (some ⟨v5.heap.size+1,0,none⟩)) (World.setCell (World.setCell (World.setCell (World.setCell (World.setCell (World.setCell v6 ⟨v5.heap.size+1,0,none⟩ (.int .i64 xn)) ⟨v5.heap.size+1,1,none⟩ (.string xv)) ⟨v5.heap.size,0,none⟩ (a)) ⟨v5.heap.size,1,none⟩ (b)) ⟨v5.heap.size,2,none⟩ (d)) ⟨v5.heap.size,3,none⟩ (e)):=by
 have hV:Fr No v5 (((v5.alloc obL).alloc obI).drew):=(by with_reducible ((repeat (first|assumption|exact Fr.refl _ _|refine Fr.alloc ?_ _|refine Fr.drew ?_|refine Fr.drewN ?_ _));done));have hsz:(((v5.alloc obL).alloc obI).drew).heap.size=v5.heap.size+2:=(by show (World.alloc _ _).heap.size=_;rw [World.size_alloc,World.size_alloc]);have hb:Blk (World.setCell (World.setCell (World.setCell (World.setCell (World.setCell (World.setCell v6 ⟨v5.heap.size+1,0,none⟩ (.int .i64 xn)) ⟨v5.heap.size+1,1,none⟩ (.string xv)) ⟨v5.heap.size,0,none⟩ (a)) ⟨v5.heap.size,1,none⟩ (b)) ⟨v5.heap.size,2,none⟩ (d)) ⟨v5.heap.size,3,none⟩ (e)) (v5.heap.size+1) TIt #[.int .i64 xn,.string xv]:=((mY xn xv ((Blk.newG (g:=v5.heap.size+1) (v5.alloc obL) TIt _ (World.size_alloc _ _).symm).fr (Fr.gq f6) hnb)).fr (dI (g:=v5.heap.size) _ _ _ _) (fun h=>absurd h.symm (Nat.ne_of_lt (Nat.lt_succ_self _))));exact xW ⟨xn,xv⟩ 2 hsz hq6 f6 hV hQ hb (by (repeat (with_reducible first|exact Fr.refl _ _|refine Fr.alloc ?_ _|refine Fr.setCell ?_ (.inl ⟨?_,?_⟩) _));all_goals (first|exact Nat.le_refl _|exact Nat.le_succ _|exact Nat.lt_succ_self _|exact Nat.lt_add_of_pos_right dcd))
theorem aM.queued {v5:World}{p:Nat}{c:Kp}(h:aM v5 F p c):∃q,v5.cell? ⟨p,4,none⟩=some (.pointer (some ⟨q,0,none⟩))∧∀(X:World) (its:List It) (les:List Le) (gr:Int),aV X (fun i=>Of v5 F aom i∨v5.heap.size≤i) q its les gr→Fr (Of v5 F aom) v5 X→
  CTo v5 F p {c with nw:={c.nw with its:=its,les:=les,gr:=gr}} X:=by
 obtain ⟨s,q,t,g,Ah,ch,b,o,n,k⟩:=h.at_;refine ⟨q,b.cell 4,fun X its les gr hq hf=> ?_⟩;have hsz:=hf.size;have hm:∀(T:List Nat) i,Of v5 F T i→(F i∨v5.heap.size≤i)∧i<X.heap.size:=fun T i h=>⟨.inl h.sub,nll h.lt hsz⟩;have hp:=b.of (T:=[nW+1]) h.fp dcd;refine ⟨fun i=>(F i∨v5.heap.size≤i)∧i<X.heap.size,⟨fun i h=>h.2,hm _ p hp,s,q,t,g,Ah,ch,b.fr hf (hp.apart dcd),((o.of (T:=[TCh+1]) dcd).frF hf (fun i h=>h.apart dcd)).mono (hm _),⟨(n.1.of.fr hf (fun i h=>h.apart dcd)).mono (hm _),hq.le.mono (fun i h=>⟨h.1.elim (fun h=> .inl h.sub) .inr,h.2⟩),(n.2.2.of.fr hf (fun i h=>h.apart dcd)).mono (hm _)⟩,(k.of.fr hf (fun i h=>h.apart dcd)).mono (hm _)⟩,fun i h=>h.1,hf.mono fun i h=>h.sub⟩
set_option maxHeartbeats 8000000 in
theorem xA {p:Nat}{c:Kp}(h:aM w F p c)(r:Rq)(hk:r.ky.size≤maxLen)(hv:r.vl.size≤maxLen)(hrq:rqB r=true)(as1:r.tn=c.ten)(hh:c.h.length≤1000000)(hi:c.nw.its.length≤1000000)(hl:c.nw.les.length≤1000000)(v t:Int)(ht0:0≤t)(ht1:t≤1073741824)
  (hT:r.op=5→ari c r.cl (lV c.ws v t) t):
  Calls Tryz.prog 10 #[.pointer (some ⟨p,0,none⟩),.int .i64 v,.int .i64 t,.agg r.arr] w fun e w' =>e= .returned (.agg (exF c v t r).1.arr)∧CTo w F p (exF c v t r).2 w' :=by
 have H:=O h;have hER:exF c v t r=if lV c.ws v t≤0 || decide (lV c.ws v t<c.ep) then (rpE 30,c)
 else if r.op=1 then (if (sK c.nw.D r.ky).2.2 then (⟨0,(sK c.nw.D r.ky).2.1,0,(sK c.nw.D r.ky).1⟩,c) else (rpE 34,c))
 else if r.op=5 then
  match nP c.nw r.cl (lV c.ws v t) t with
  |(none,_)=>(rpE 34,c)
  |(some x,les)=>(⟨0,0,x.nm,x.vl⟩,{c with nw:={c.nw with les:=les}})
 else wrF c (lV c.ws v t) t r:=by
  unfold exF;rw [hrq,as1];rw [if_neg (by simp;omega)]
  rfl
 have aqb:=fun V (hV:Fr No w V) (h1:r.op≠1) (h5:r.op≠5)=>zK (h.au hV) r hk hv (by
  unfold rqB at hrq
  by_cases e1:r.op=1<;>by_cases e2:r.op=2<;>by_cases e3:r.op=3<;>by_cases e4:r.op=4<;>by_cases e5:r.op=5<;>by_cases e6:r.op=6<;>simp_all) hh hi hl (lV c.ws v t) t
 have hval:=fun V=>acw r V hk hv;rw [hrq] at hval;obtain ⟨bcs,hbp⟩:∃cs,Blk w p nW cs:=by obtain ⟨_,_,_,_,_,_,b,_⟩:=h.at_;exact ⟨_,b⟩
 have HP:=O hbp;obtain ⟨s,q,tt,g,Ah,ch,hcp,hnw,hgt⟩:=h.parts;have hget:=fun V (hV:Fr No w V)=>ab2 (hnw V hV).1 r.ky hk;have hacc:=fun V (hV:Fr No w V)=>vO (hgt V hV) v t;have am2:=fun V (hV:Fr No w V)=>acy (h.au hV) hh;generalize exF c v t r=ER at hER ⊢;obtain ⟨tn,cl,nm,op,it,ky,vl⟩:=r;simp only [Rq.arr] at*;subst as1;obtain ⟨w1,hw1⟩:∃w1,w1=(w.alloc (.cells #[.int .i64 c.ten,.int .i64 cl,.int .i64 nm,.int .i64 op,.int .i64 it,.string ky,.string vl] TRq)).alloc (.cells #[.int .i64 0,.int .i64 0,.int .i64 0,.string ⟨#[]⟩] TRp):=⟨_,rfl⟩;obtain ⟨g1,hg1⟩:∃g1,g1=w.heap.size:=⟨_,rfl⟩;obtain ⟨g2,hg2⟩:∃g2,g2=w.heap.size+1:=⟨_,rfl⟩;have f1:Fr No w w1:=by rw [hw1];exact (aj _ _).alloc _
 have b1:Blk w1 g1 TRq (Rq.arr ⟨c.ten,cl,nm,op,it,ky,vl⟩):=by rw [hw1,hg1];exact (Blk.new _ _ _).fr (aj _ _) id
 have b2:Blk w1 g2 TRp rp0.arr:=by rw [hw1,hg2];exact Blk.newG _ _ _ (by simp)
 have hx:=fun V (hV:Fr No w1 V)=>(⟨hcp V (f1.ah hV),lN (b1.fr hV id)⟩:_∧_);simp only at hx;have hga:w.heap.size≤g1:=by omega
 have hgb:w.heap.size≤g2:=by omega
 have hg1' :g1<w1.heap.size:=b1.lt;have aqy :g2<w1.heap.size:=b2.lt;obtain ⟨A,hA⟩:∃A,A=lV c.ws v t:=⟨_,rfl⟩;rw [←hA] at hER aqb hacc hT;have hlt:=h.lt;obtain ⟨B1,B2⟩:=aN b1 b2;have d1:decide (t<0)=false:=dff;have d2:decide (1073741824<t)=false:=dff;clear b1 b2 hcp h hgt hA hrq hbp;obtain ⟨HER,HT,aru,aj8,akd,avl,apb,HNW,HLT,HX,HW1,HG1⟩:=nS hER hT aqb hval hget hacc am2 hnw hlt hx hw1 hg1;obtain ⟨HG2,F1⟩:=aN hg2 f1;clear hER hT aqb hval hget hacc am2 hnw hlt hx hw1 hg1 hg2 f1
 go_in
 go_upto_region 1 with fail
 rw [←HG2.out,←HW1.out,←HG1.out];obtain ⟨⟨p0,p1,p2,p3,p4,p5,p6⟩,x0,x1,x2,x3,x4,x5,x6⟩:=HX.out w1 (Fr.refl _ _)
 go_region_held3 (fun V=>(V.cell? ⟨p,1,none⟩=some (.int .i64 c.ten))∧(V.cell? ⟨g1,0,none⟩=some (.int .i64 c.ten)∧V.cell? ⟨g1,1,none⟩=some (.int .i64 cl)∧V.cell? ⟨g1,2,none⟩=some (.int .i64 nm)∧V.cell? ⟨g1,3,none⟩=some (.int .i64 op)∧V.cell? ⟨g1,4,none⟩=some (.int .i64 it)∧V.cell? ⟨g1,5,none⟩=some (.string ky)∧V.cell? ⟨g1,6,none⟩=some (.string vl))) ((refine ⟨(HX.out _ ?_).1.2.1,(HX.out _ ?_).2⟩<;>(with_reducible ((repeat (first|assumption|exact Fr.refl _ _|refine Fr.alloc ?_ _|refine Fr.drew ?_|refine Fr.drewN ?_ _|refine Fr.setCell ?_ (.inr (Nat.le_refl _)) _));done)))) (first
  |(go_at_call 40;refine (aj8.out _).mono ?_;rintro r2 v3 ⟨rfl,f3⟩;have Q3:Fr No w1 v3:=Fr.ah (by with_reducible ((repeat (first|assumption|exact Fr.refl _ _|refine Fr.alloc ?_ _|refine Fr.drew ?_|refine Fr.drewN ?_ _));done)) f3;clear f3))
 have F3:=O Q3;clear p0 p1 p2 p3 p4 p5 p6 x0 x1 x2 x3 x4 x5 x6 Q3 aj8;obtain ⟨⟨p0,p1,p2,p3,p4,p5,p6⟩,x0,x1,x2,x3,x4,x5,x6⟩:=HX.out v3 F3.out
 go_wp2_with fail
 refine (avl.out _ (F1.out.ah F3.out)).mono ?_;rintro e v4 ⟨rfl,f4⟩;have F4:=O (F3.out.ah f4);clear p0 p1 p2 p3 p4 p5 p6 x0 x1 x2 x3 x4 x5 x6 f4 F3 avl;have av8:w1.heap.size≤v4.heap.size:=F4.out.size;have av9:w.heap.size≤w1.heap.size:=F1.out.size;have b24:=B2.out.fr F4.out id;have B24:=O b24;obtain ⟨z0,z1,z2,z3⟩:=bZ b24;simp only [rp0] at z0 z1 z2 z3;have q0:=b24.frozen 0;have q1:=b24.frozen 1;have q2:=b24.frozen 2;have q3:=b24.frozen 3;clear b24;have adh:∀(V:World) (u:Rp),Fr No w1 V→CTo w F p c (World.setCell (World.setCell (World.setCell (World.setCell V ⟨g2,0,none⟩ (.int .i64 u.er)) ⟨g2,1,none⟩ (.int .i64 u.sq)) ⟨g2,2,none⟩ (.int .i64 u.it)) ⟨g2,3,none⟩ (.string u.vl)):=fun V u hV=>
  CTo.same H.out (H:=fun i=>w.heap.size≤i) (((F1.out.ah hV).mono fun _ h=>h.elim).trans (dI _ _ _ _) fun i hi=> .inl oy) (fun _ h=>h)
 have HS:=O adh;clear adh
 cases d3:decide (0<A)
 ·have hA0:A≤0:=by have:=of_decide_eq_false d3;omega
  have HQ:=O (HER.out.trans (if_pos (by simp [hA0])))
  go_wp2_with fail
  exact bodyPost_ret (v:= .agg (Rp.arr (rpE 30))) (bT 8 _ _ (bE (rpE 30) rp0 B24.out) rfl rfl) rfl ⟨by rw [HQ.out],by rw [HQ.out];exact HS.out _ (rpE 30) F4.out⟩
 have hA0:Hid (¬A≤0):=O (by have:=of_decide_eq_true d3;omega)
 go_wp2_with fail
 refine (apb.out _ (F1.out.ah F4.out)).mono ?_;rintro e v5 ⟨rfl,m5,hm5⟩;have f45:Fr No v4 v5:=by rw [hm5];exact (Fr.refl _ _).drewN _
 have F5:=O (F4.out.ah f45);have b25:=B24.out.fr f45 id;have B25:=O b25;clear z0 z1 z2 z3 q0 q1 q2 q3 hm5 f45;obtain ⟨z0,z1,z2,z3⟩:=bZ b25;simp only [rp0] at z0 z1 z2 z3;have q0:=b25.frozen 0;have q1:=b25.frozen 1;have q2:=b25.frozen 2;have q3:=b25.frozen 3;clear b25 B24
 cases d4:decide (A<c.ep)
 rotate_left
 ·have atb:A<c.ep:=of_decide_eq_true d4
  have HQ:=O (HER.out.trans (if_pos (by simp [atb])))
  go_wp2_with fail
  exact bodyPost_ret (v:= .agg (Rp.arr (rpE 30))) (bT 8 _ _ (bE (rpE 30) rp0 B25.out) rfl rfl) rfl ⟨by rw [HQ.out],by rw [HQ.out];exact HS.out _ (rpE 30) F5.out⟩
 have HE2:=O (HER.out.trans (if_neg (by
  have h1:=hA0.out;have h2:=of_decide_eq_false d4
  simp [h1,h2])))
 clear HER;obtain ⟨⟨p0,p1,p2,p3,p4,p5,p6⟩,x0,x1,x2,x3,x4,x5,x6⟩:=HX.out v5 F5.out
 cases d5:op == 1
 rotate_left
 ·obtain rfl:op=1:=by simpa using d5
  have HE3:=O (HE2.out.trans (if_pos rfl));clear HE2 d5;generalize sK c.nw.D ky=gf at akd HE3;obtain ⟨gv,gs,gh⟩:=gf;simp only at HE3 akd;have hs0:∀V,Fr No v5 V→(V.cell? ⟨p,3,none⟩=some (.pointer (some ⟨s,0,none⟩))∧V.cell? ⟨g1,5,none⟩=some (.string ky)):=fun V hV=>⟨(HX.out V (F5.out.ah hV)).1.2.2.2.1,(HX.out V (F5.out.ah hV)).2.2.2.2.2.2.1⟩;have HS0:=O hs0;clear hs0
  go_upto_region 9 with fail
  go_region_held3 (fun V=>V.cell? ⟨p,3,none⟩=some (.pointer (some ⟨s,0,none⟩))∧V.cell? ⟨g1,5,none⟩=some (.string ky)) ((refine HS0.out _ ?_;(with_reducible ((repeat (first|assumption|exact Fr.refl _ _|refine Fr.alloc ?_ _|refine Fr.drew ?_|refine Fr.drewN ?_ _|refine Fr.setCell ?_ (.inr (Nat.le_refl _)) _));done)))) (first
   |(go_at_call 43;refine (akd.out _ (F1.out.ah (F5.out.ah (by with_reducible ((repeat (first|assumption|exact Fr.refl _ _|refine Fr.alloc ?_ _|refine Fr.drew ?_|refine Fr.drewN ?_ _));done))))).mono ?_;rintro r2 v6 ⟨rfl,f6⟩;have Q6:Fr No v5 v6:=Fr.ah (by with_reducible ((repeat (first|assumption|exact Fr.refl _ _|refine Fr.alloc ?_ _|refine Fr.drew ?_|refine Fr.drewN ?_ _));done)) f6;clear f6))
  have F6:=O (F5.out.ah Q6);have b26:=B25.out.fr Q6 id;have B26:=O b26;clear z0 z1 z2 z3 q0 q1 q2 q3 Q6 p0 p1 p2 p3 p4 p5 p6 x0 x1 x2 x3 x4 x5 x6;obtain ⟨z0,z1,z2,z3⟩:=bZ b26;simp only [rp0] at z0 z1 z2 z3;have q0:=b26.frozen 0;have q1:=b26.frozen 1;have q2:=b26.frozen 2;have q3:=b26.frozen 3;clear b26
  cases gh
  ·have HQ:=O (HE3.out.trans (if_neg (by simp)))
   go_wp2_with fail
   exact bodyPost_ret (v:= .agg (Rp.arr (rpE 34))) (bT 8 _ _ (bE (rpE 34) rp0 B26.out) rfl rfl) rfl ⟨by rw [HQ.out],by rw [HQ.out];exact HS.out _ (rpE 34) F6.out⟩
  ·have HQ:=O (HE3.out.trans (if_pos rfl))
   go_wp2_with fail
   exact bodyPost_ret (v:= .agg (Rp.arr ⟨0,gs,0,gv⟩)) (bT 8 _ _ (bE ⟨0,gs,0,gv⟩ rp0 B26.out) rfl rfl) rfl ⟨by rw [HQ.out],by rw [HQ.out];exact HS.out _ ⟨0,gs,0,gv⟩ F6.out⟩
 have hn1:op≠1:=by simpa using d5
 have HE3:=O (HE2.out.trans (if_neg hn1));clear HE2
 cases d6:op == 5
 ·have hn5:op≠5:=by simpa using d6
  have HE4:=O (HE3.out.trans (if_neg hn5));have hw5:=aru.out v5 (F1.out.ah F5.out) hn1 hn5;clear HE3 aru hn5;have HN1:=O hn1;clear hn1;generalize wrF c A t ⟨c.ten,cl,nm,op,it,ky,vl⟩=WR at hw5 HE4;obtain ⟨⟨er8,sq8,it8,vl8⟩,d8⟩:=WR;simp only [Rp.arr] at hw5
  go_wp2_with fail
  refine hw5.mono ?_;clear hw5;rintro e v7 ⟨rfl,hc7⟩;have HC7:=O hc7;obtain ⟨F',hcF,hsF,hfF⟩:=hc7;have b27:=B25.out.fr hfF (fun h=>by have:=HLT.out _ h;omega);have B27:=O b27;clear z0 z1 z2 z3 q0 q1 q2 q3 hcF hsF hfF p0 p1 p2 p3 p4 p5 p6 x0 x1 x2 x3 x4 x5 x6;obtain ⟨z0,z1,z2,z3⟩:=bZ b27;simp only [rp0] at z0 z1 z2 z3;have q0:=b27.frozen 0;have q1:=b27.frozen 1;have q2:=b27.frozen 2;have q3:=b27.frozen 3;clear b27
  go_wp2_with fail
  refine bodyPost_ret (v:= .agg (Rp.arr ⟨er8,sq8,it8,vl8⟩)) (bT 8 _ _ (bE ⟨er8,sq8,it8,vl8⟩ rp0 B27.out) rfl rfl) rfl ⟨by rw [HE4.out],?_⟩;rw [HE4.out];exact CTo.store (G:=fun i=>i=g2) HLT.out HC7.out (F1.out.ah F5.out) (fun i e=>by
   subst e;exact ⟨hgb,nll aqy F5.out.size⟩) (dI _ _ _ _)
 ·obtain rfl:op=5:=by simpa using d6
  have HE4:=O (HE3.out.trans (if_pos rfl));clear HE3 d5 d6 hn1 aru akd
  go_upto_region 14 with fail
  have hqu:=(HNW.out v5 (F1.out.ah F5.out)).2.1.of;obtain ⟨Q,hQe⟩:∃Q,Q=Of v5 F aom:=⟨_,rfl⟩;rw [←hQe] at hqu;have afp:∀i,Q i→i<v5.heap.size:=fun i h=>by rw [hQe] at h;exact h.lt
  have HQF:Hid (∀i,Q i→F i):=O (fun i h=>by rw [hQe] at h;exact h.sub);have htk:=fun V (hV:Fr No v5 V)=>HT.out trivial V Q q (hqu.fr hV (fun _ _ h=>h)) (fun i h=>nll (afp i h) hV.size);have ao3:(nP c.nw cl A t).1=none→(nP c.nw cl A t).2=c.nw.les:=by
   unfold nP
   split<;>intro h
   ·rfl
   ·cases h
  have hqd:=(H.out.au (F1.out.ah F5.out)).queued;generalize nP c.nw cl A t=TK at htk HE4 ao3;obtain ⟨o,asw⟩:=TK;simp only at htk ao3;rw [←hQe] at hqd;obtain ⟨q_,hq_,hqd⟩:=hqd;obtain rfl:q=q_:=by have:=p4.symm.trans hq_;simpa using this
  obtain ⟨HQD,axh⟩:=aN hqd ao3;clear hq_ hqd ao3;obtain ⟨xo,hxo⟩:∃x,x=pU o:=⟨_,rfl⟩;obtain ⟨eo,heo⟩:∃e,e=pV o:=⟨_,rfl⟩;rw [←hxo,←heo] at htk;obtain ⟨xn,xv⟩:=xo;unfold It.v at htk;simp only at htk;have hna:¬Q v5.heap.size:=fun h=>by have:=afp _ h;omega
  have hnb:¬Q (v5.heap.size+1):=fun h=>by have:=afp _ h;omega
  have hTa:=fun W (hW:Fr Q ((v5.alloc obI).alloc obL) W)=>(⟨xg ((((Blk.new v5 TIt _).fr (aj _ obL) id).fr hW hna)),abb ((Blk.newG (g:=v5.heap.size+1) (v5.alloc obI) TLe _ (by simp)).fr hW hnb)⟩:_∧_);have hTb:=fun W (hW:Fr Q ((v5.alloc obL).alloc obI) W)=>(⟨abb ((((Blk.new v5 TLe _).fr (aj _ obI) id).fr hW hna)),xg ((Blk.newG (g:=v5.heap.size+1) (v5.alloc obL) TIt _ (by simp)).fr hW hnb)⟩:_∧_);have hTc:=fun W (hW:Fr Q (v5.alloc obI) W)=>xg ((Blk.new v5 TIt _).fr hW hna);have hTd:=fun W (hW:Fr Q (v5.alloc obL) W)=>abb ((Blk.new v5 TLe _).fr hW hna);have hpq:¬(Q p∨v5.heap.size≤p):=by
   rintro (h|h)
   ·rw [hQe] at h
    exact (HP.out.fr (F1.out.ah F5.out) id).of (T:=[nW+1]) H.out.fp dcd|>.apart dcd h
   ·have:=HLT.out p H.out.fp;have:=F1.out.size;have:=F5.out.size;omega
  have hgq:¬(Q g1∨v5.heap.size≤g1):=by
   rintro (h|h)
   ·have:=HLT.out _ (HQF.out _ h);omega
   ·have:=F5.out.size;omega
  have hs0:∀V,Fr (fun i=>Q i∨v5.heap.size≤i) v5 V→(V.cell? ⟨p,4,none⟩=some (.pointer (some ⟨q,0,none⟩))∧V.cell? ⟨g1,1,none⟩=some (.int .i64 cl)):=fun V hV=>⟨(hV.cell (p:=⟨p,4,none⟩) (by show p<_;have:=HLT.out p H.out.fp;have:=F1.out.size;have:=F5.out.size;omega) hpq).trans p4,(hV.cell (p:=⟨g1,1,none⟩) (by show g1<_;have:=F5.out.size;omega) hgq).trans x1⟩;obtain ⟨HS0,HXO,HEO⟩:=bC hs0 hxo heo;clear hs0 hpq hgq hqu hQe hxo heo p0 p1 p2 p3 p5 p6 x0 x2 x3 x4 x5 x6 z0 z1 z2 z3 q0 q1 q2 q3 HT;obtain ⟨HTK,HTA,HTB,HTC,HTD,HNA,HNB⟩:=jo htk hTa hTb hTc hTd hna hnb;clear htk hTa hTb hTc hTd hna hnb
  go_cut [15,16,17] from 84 to 97 (fun a b d wx=>d= .int .i64 eo∧ahx v5 Q q c.nw.its asw c.nw.gr ⟨xn,xv⟩ a wx)
  case first=>
   go_region_held3 (fun V=>V.cell? ⟨p,4,none⟩=some (.pointer (some ⟨q,0,none⟩))∧V.cell? ⟨g1,1,none⟩=some (.int .i64 cl)) ((refine HS0.out _ ?_;with_reducible (repeat (first|exact Fr.refl _ _|assumption|refine Fr.alloc ?_ _|refine Fr.drew ?_|refine Fr.setCell ?_ (.inr (Nat.le_refl _)) _|refine Fr.setCell ?_ (.inr (Nat.le_succ _)) _));done)) (first
    |(go_at_call 44;refine (HTK.out _ (by with_reducible ((repeat (first|assumption|exact Fr.refl _ _|refine Fr.alloc ?_ _|refine Fr.drew ?_|refine Fr.drewN ?_ _));done))).mono ?_;rintro r2 v6 ⟨l6,rfl,hq6,f6⟩;have Q6:Fr (fun i=>Q i∨v5.heap.size≤i) v5 v6:=Fr.trans (toAny (by with_reducible ((repeat (first|assumption|exact Fr.refl _ _|refine Fr.alloc ?_ _|refine Fr.drew ?_|refine Fr.drewN ?_ _));done))) (Fr.gq f6) (fun i h=> .inl (.inl h));first|(have hz_:=HTA.out v6 (Fr.gq f6);obtain ⟨⟨y0_,y1_,y2_,y3_⟩,u0_,u1_,u2_,u3_,u4_,u5_,u6_,u7_⟩:=hz_)|(have hz_:=HTB.out v6 (Fr.gq f6);obtain ⟨⟨u0_,u1_,u2_,u3_,u4_,u5_,u6_,u7_⟩,y0_,y1_,y2_,y3_⟩:=hz_)|(have hz_:=HTC.out v6 (Fr.gq f6);have lt_:v5.heap.size<v6.heap.size:=wQ f6;obtain ⟨y0_,y1_,y2_,y3_⟩:=hz_)|(have hz_:=HTD.out v6 (Fr.gq f6);have lt_:v5.heap.size<v6.heap.size:=wQ f6;obtain ⟨u0_,u1_,u2_,u3_,u4_,u5_,u6_,u7_⟩:=hz_)|skip))
   all_goals (try go_wp2_with fail)
   all_goals go_meet
   all_goals refine ⟨rfl,?_⟩
   ·exact avt hq6 f6 afp HNA.out HNB.out
   ·exact avs hq6 f6 afp HNA.out HNB.out
   ·exact avr hq6 f6 afp HNA.out HNB.out
   ·exact avq hq6 f6 afp HNA.out HNB.out
   ·exact avp hq6 f6 afp HNA.out HNB.out
   ·exact avo hq6 f6 afp HNA.out HNB.out
  obtain ⟨rfl,g15,rfl,b15,as7,f15⟩:=hcut;have HC:=O (HQD.out _ _ _ _ as7 f15);have b2c:=B25.out.fr f15 (fun h=>by have:=HLT.out _ (HQF.out _ h);omega);have B2C:=O b2c;obtain ⟨z0,z1,z2,z3⟩:=bZ b2c;simp only [rp0] at z0 z1 z2 z3;have q0:=b2c.frozen 0;have q1:=b2c.frozen 1;have q2:=b2c.frozen 2;have q3:=b2c.frozen 3;obtain ⟨y0,y1,_,_⟩:=xg b15;clear b2c as7 f15 b15 p4 x1 HQD HTA HTB HTC HTD HS0 HTK;have eu:=O (fun (u:Rp) (d:Kp) (hd:CTo v5 F p d wc)=>CTo.store (G:=fun i=>i=g2) HLT.out hd (F1.out.ah F5.out) (fun i e=>by subst e;exact ⟨hgb,nll aqy F5.out.size⟩) (dI (.int .i64 u.er) (.int .i64 u.sq) (.int .i64 u.it) (.string u.vl)))
  rcases o with _|⟨on,ov⟩
  ·have he:=HEO.out
   simp only [pV,Option.isSome_none,Bool.false_eq_true,if_false] at he;subst he;have awk:=axh.out rfl;subst awk
   go_wp2_with fail
   refine bodyPost_ret (v:= .agg (Rp.arr (rpE 34))) (bT 8 _ _ (bE (rpE 34) rp0 B2C.out) rfl rfl) rfl ⟨by rw [HE4.out],?_⟩;rw [HE4.out];exact eu.out (rpE 34) _ HC.out
  ·have he:=HEO.out
   simp only [pV,Option.isSome_some,if_true] at he;subst he;have hx_:=HXO.out;simp only [pU,Option.getD_some,It.mk.injEq] at hx_;obtain ⟨rfl,rfl⟩:=hx_
   go_wp2_with fail
   refine bodyPost_ret (v:= .agg (Rp.arr ⟨0,0,xn,xv⟩)) (bT 8 _ _ (bE ⟨0,0,xn,xv⟩ rp0 B2C.out) rfl rfl) rfl ⟨by rw [HE4.out],?_⟩;rw [HE4.out];exact eu.out ⟨0,0,xn,xv⟩ _ HC.out
end
end Go.Proofs.YtodkhcbjpodgeaaGreat
