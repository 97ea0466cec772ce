/-
  A queue: what a change makes of it.
-/
import Derived.Test.YtodkhcbjpodgeaaGreatG14
import Derived.Test.YtodkhcbjpodgeaaGreatG19
namespace Go.Proofs.YtodkhcbjpodgeaaGreat
open Go.ChangeShapes Go.WideShapes Go.ChangeAt Go.RowKit
set_option linter.unusedVariables false
set_option maxRecDepth 100000
set_option maxHeartbeats 4000000
def aro (w:World)(F:Nat→Prop)(q:Nat)(its:List It)(les:List Le)(gr:Int)(w' :World):Prop:=aV w' (fun i=>F i∨w.heap.size≤i) q its les gr∧Fr F w w'
theorem aA.apQ {w:World}{F G:Nat→Prop}{e e' :TypeId}{s s' n n' :Nat}{v v' :Value}{xs xs' :List Value}(h1:aA w F e s v n xs)(h2:aA w G e' s' v' n' xs')(hne:e≠e'):∀g,v.ownBlock=some g→¬(v'.ownBlock=some g):=by
 intro g hg hg'
 rcases h2.1.2 with ⟨rfl,_⟩|⟨g',cap,cur,rfl,_,hh,_⟩
 ·cases hg'
 ·exact h1.aW (g:=g') hh hne _ hg (by injection hg' with e1;exact e1.symm)
theorem Blk.neQ {w:World}{g g' :Nat}{t t' :TypeId}{cs cs' :Array Value}(h:Blk w g t cs)(h' :Blk w g' t' cs')(hne:t≠t'):g≠g' :=by
 rintro rfl;unfold Blk at h h';rw [h] at h';injection h' with e1;injection e1 with _ e2;exact hne e2
structure Qb (w:World) (F:Nat→Prop) (q g1:Nat) (xs:Array Value) (a b c:Value) (vi:Value) (ni:Nat) (xi:List Value) (vl:Value) (nl:Nat) (xl:List Value) (W:World):Prop where
 bq:Blk W q arj #[a,b,c]
 bg:Blk W g1 TCh xs
 oi:aA W (fun i=>F i∨w.heap.size≤i) TIt 2 vi ni xi
 ol:aA W (fun i=>F i∨w.heap.size≤i) TLe 4 vl nl xl
 fr:Fr F w W
 hq:F q
section
variable {w W W' :World}{F:Nat→Prop}{q g1:Nat}{xs:Array Value}{a b c vi vl:Value}{ni nl:Nat}{xi xl:List Value}
theorem Qb.step (h:Qb w F q g1 xs a b c vi ni xi vl nl xl W)(hf:Fr No W W'):Qb w F q g1 xs a b c vi ni xi vl nl xl W' :=
 ⟨h.bq.fr hf id,h.bg.fr hf id,h.oi.au hf,h.ol.au hf,h.fr.trans hf (fun _ h=>h.elim),h.hq⟩
theorem Qb.asr (h:Qb w F q g1 xs a b c vi ni xi vl nl xl W){vi' :Value}{ni' :Nat}{xi' :List Value}(hf:Fr (fun i=>vi.ownBlock=some i) W W')(ho:aA W' (fun i=>F i∨w.heap.size≤i) TIt 2 vi' ni' xi'):Qb w F q g1 xs a b c vi' ni' xi' vl nl xl W' :=
 ⟨h.bq.fr hf (fun e=>h.oi.aW h.bq dcd _ e rfl),h.bg.fr hf (fun e=>h.oi.aW h.bg dcd _ e rfl),ho,h.ol.fr' hf (fun g h1 h2=>h.oi.apQ h.ol dcd g h2 h1),h.fr.trans hf (fun g e=>h.oi.2 g e),h.hq⟩
theorem Qb.av0 (h:Qb w F q g1 xs a b c vi ni xi vl nl xl W){vl' :Value}{nl' :Nat}{xl' :List Value}(hf:Fr (fun i=>vl.ownBlock=some i) W W')(ho:aA W' (fun i=>F i∨w.heap.size≤i) TLe 4 vl' nl' xl'):Qb w F q g1 xs a b c vi ni xi vl' nl' xl' W' :=
 ⟨h.bq.fr hf (fun e=>h.ol.aW h.bq dcd _ e rfl),h.bg.fr hf (fun e=>h.ol.aW h.bg dcd _ e rfl),h.oi.fr' hf (fun g h1 h2=>h.oi.apQ h.ol dcd g h1 h2),ho,h.fr.trans hf (fun g e=>h.ol.2 g e),h.hq⟩
theorem aA.self {F:Nat→Prop}{e:TypeId}{size n:Nat}{v:Value}{ys:List Value}(h:aA w F e size v n ys):aA w (fun i=>v.ownBlock=some i) e size v n ys:=⟨h.1,fun _ hg=>hg⟩
theorem Qb.app (h:Qb w F q g1 xs a b c vi ni xi vl nl xl W){news:List Value}{m:Nat}{v' :Value}(ha:aJ W 0 TIt 2 vi ni xi news m v' W'):Qb w F q g1 xs a b c v' (ni+m) (xi++news) vl nl xl W' :=by
 obtain ⟨-,f1⟩:=h.oi.self.appended ha;obtain ⟨o1,-⟩:=h.oi.appended ha;exact h.asr f1 (o1.mono fun i hi=>hi.elim id fun e=> .inr (by have:=h.fr.size;omega))
theorem Qb.aC (h:Qb w F q g1 xs a b c vi ni xi vl nl xl W)(k:Nat)(u:Value){a' b' c' :Value}(he:(#[a,b,c]:Array Value).setIfInBounds k u= #[a',b',c']):Qb w F q g1 xs a' b' c' vi ni xi vl nl xl (W.setCell ⟨q,k,none⟩ u):=
 ⟨(h.bq.aC k u).cv he,h.bg.fr (gU W _ u) (h.bg.neQ h.bq dcd),h.oi.fr' (gU W _ u) (h.oi.aW h.bq dcd),h.ol.fr' (gU W _ u) (h.ol.aW h.bq dcd),h.fr.setCell (p:=⟨q,k,none⟩) (.inl h.hq) u,h.hq⟩
theorem Qb.cells {vs:List Value}(h:Qb w F q g1 vs.toArray a b c vi ni xi vl nl xl W):(W.cell? ⟨q,0,none⟩=some a∧W.cell? ⟨q,1,none⟩=some b∧W.cell? ⟨q,2,none⟩=some c)∧(W.frozen? ⟨q,0,none⟩=false∧W.frozen? ⟨q,1,none⟩=false∧W.frozen? ⟨q,2,none⟩=false)∧∀i,W.cell? ⟨g1,i,none⟩=vs[i]? :=
 ⟨⟨h.bq.cell 0,h.bq.cell 1,h.bq.cell 2⟩,⟨h.bq.frozen 0,h.bq.frozen 1,h.bq.frozen 2⟩,fun i=>(h.bg.cell i).trans (List.getElem?_toArray ..)⟩
end
theorem Qb.to {w W:World}{F:Nat→Prop}{q g1:Nat}{xs:Array Value}{gr:Int}{vi vl:Value}{its:List It}{les:List Le}{xi xl:List Value}{ni nl:Nat}(h:Qb w F q g1 xs vi vl (.int .i64 gr) vi ni xi vl nl xl W)(h1:ni=its.length)(h2:xi=itV its)(h3:nl=les.length)(h4:xl=leV les):aro w F q its les gr W:=by
 subst h1 h2 h3 h4;have o1:=h.oi;have o2:=h.ol;have hb:=h.bq;obtain ⟨A,c,rfl,-⟩:=h.oi.form;obtain ⟨A',c',rfl,-⟩:=h.ol.form;exact ⟨⟨A,c,A',c',.inl h.hq,hb,o1,o2⟩,h.fr⟩
set_option maxHeartbeats 8000000 in
theorem uo {w:World}{F:Nat→Prop}{q:Nat}{its:List It}{les:List Le}{gr:Int}(h:aV w F q its les gr)(x:Ch)(hk:x.ky.size≤maxLen)(hv:x.vl.size≤maxLen)(hni:its.length≤1000000):
  Calls Tryz.prog 125 #[.pointer (some ⟨q,0,none⟩),.agg #[.int .i64 x.ep,.int .i64 x.sq,.int .i64 x.kd,.int .i64 x.cl,.int .i64 x.nm,.int .i64 x.it,.string x.ky,.string x.vl]] w fun e w' =>e= .returned (.int .i64 (gD its les gr x).1)∧aro w F q (gD its les gr x).2.1 (gD its les gr x).2.2.1 (gD its les gr x).2.2.2 w' :=by
 obtain ⟨i1,hi1,hz0,hz1,hz2⟩:=info_parts mZ;have hvl:=fun V=>iX x V hk hv;have hst:gD its les gr x=if !chB x then (1,its,les,gr) else if x.kd=3 then (if x.sq≤gr then (36,its,les,gr) else if 16≤its.length then (33,its,les,gr) else (0,its++[⟨x.sq,x.vl⟩],les,x.sq)) else if x.kd=4 then (if its.any (fun t=>t.nm == x.it) then (0,its.eraseP (fun t=>t.nm == x.it),les.filter (fun l=> !(l.it == x.it)),gr) else (34,its,les,gr)) else (0,its,les,gr):=rfl
 revert hvl hst;generalize chB x=qv;generalize gD its les gr x=R;intro hvl hst;obtain ⟨ep,sq,kd,cl,nm,it,ky,vl⟩:=x;simp only at*;obtain ⟨w1,hw1⟩:∃w1,w1=w.alloc (.cells #[.int .i64 ep,.int .i64 sq,.int .i64 kd,.int .i64 cl,.int .i64 nm,.int .i64 it,.string ky,.string vl] TCh):=⟨_,rfl⟩;obtain ⟨g1,hg1⟩:∃g1,g1=w.heap.size:=⟨_,rfl⟩;have b1:Blk w1 g1 TCh ([.int .i64 ep,.int .i64 sq,.int .i64 kd,.int .i64 cl,.int .i64 nm,.int .i64 it,.string ky,.string vl]).toArray:=by rw [hw1,hg1];exact Blk.new _ _ _
 have fr1:Fr No w w1:=by rw [hw1];exact aj _ _
 obtain ⟨Ai,ci,Al,cl',hfq,hbq,ho1,ho2⟩:=h;obtain ⟨hic,ath⟩:=ho1.cap;have hAi:Ai=none→its.length=0:=by obtain ⟨_,_,e,n0⟩:=ho1.form;cases e;exact n0
 have qb:Qb w F q g1 ([.int .i64 ep,.int .i64 sq,.int .i64 kd,.int .i64 cl,.int .i64 nm,.int .i64 it,.string ky,.string vl]).toArray (.slice Ai its.length ci) (.slice Al les.length cl') (.int .i64 gr) (.slice Ai its.length ci) its.length (itV its) (.slice Al les.length cl') les.length (leV les) w1:=
  ⟨hbq.fr fr1 id,b1,(ho1.au fr1).mono fun _ h=> .inl h,(ho2.au fr1).mono fun _ h=> .inl h,fr1.mono fun _ h=>h.elim,hfq⟩
 have hqg:q≠g1:=by have:=hbq.lt;omega
 have ayf :g1≠q:=fun e=>hqg e.symm;have awt:g1<w1.heap.size:=b1.lt;clear hbq ho1 ho2 b1 fr1;have QB:=O qb;clear qb;obtain ⟨HW1,HG1,HVL,HST,HK,HV,HI1,HZ0,HZ1,HZ2,HAI⟩:=kP hw1 hg1 hvl hst hk hv hi1 hz0 hz1 hz2 hAi;clear hw1 hg1 hvl hst hk hv hi1 hz0 hz1 hz2 hAi
 go_in
 go_upto_region 1 with fail
 rw [←HW1.out,←HG1.out];obtain ⟨⟨q0,q1,q2⟩,⟨z0,z1,z2⟩,xx⟩:=QB.out.cells;have x0:=xx 0;have x1:=xx 1;have x2:=xx 2;have x3:=xx 3;have x4:=xx 4;have x5:=xx 5;have x6:=xx 6;have x7:=xx 7;simp only [List.getElem?_cons_succ,List.getElem?_cons_zero] at x0 x1 x2 x3 x4 x5 x6 x7;clear xx
 go_wp2_with fail
 refine (HVL.out _).mono ?_;rintro r w2 ⟨rfl,f2⟩;have Q2:=O (QB.out.step f2);clear QB f2 q0 q1 q2 z0 z1 z2 x0 x1 x2 x3 x4 x5 x6 x7;obtain ⟨⟨q0,q1,q2⟩,⟨z0,z1,z2⟩,xx⟩:=Q2.out.cells;have x0:=xx 0;have x1:=xx 1;have x2:=xx 2;have x3:=xx 3;have x4:=xx 4;have x5:=xx 5;have x6:=xx 6;have x7:=xx 7;simp only [List.getElem?_cons_succ,List.getElem?_cons_zero] at x0 x1 x2 x3 x4 x5 x6 x7;clear xx
 cases qv
 ·have HR:=O (HST.out.trans (if_pos rfl))
  go_wp2_with fail
  go_ret
  rw [HR.out];exact ⟨rfl,Q2.out.to rfl rfl rfl rfl⟩
 have HR0:=O (HST.out.trans (if_neg dcd));clear HST HVL
 by_cases k3:kd=3
 ·subst k3
  have HR1:=O (HR0.out.trans (if_pos rfl));clear HR0
  go_upto_region 5 with fail
  go_quiet (fail)
  obtain ⟨w3,hw3⟩:∃w3,w3=w2.drewN nq:=⟨_,rfl⟩;have Q3:=O (Q2.out.step (W' :=w3) (by rw [hw3];exact (Fr.refl _ _).drewN _));rw [←hw3];clear hw3 nq;clear Q2 q0 q1 q2 z0 z1 z2 x0 x1 x2 x3 x4 x5 x6 x7;obtain ⟨⟨q0,q1,q2⟩,⟨z0,z1,z2⟩,xx⟩:=Q3.out.cells;have x0:=xx 0;have x1:=xx 1;have x2:=xx 2;have x3:=xx 3;have x4:=xx 4;have x5:=xx 5;have x6:=xx 6;have x7:=xx 7;simp only [List.getElem?_cons_succ,List.getElem?_cons_zero] at x0 x1 x2 x3 x4 x5 x6 x7;clear xx
  cases c1:decide (sq≤gr)
  case true=>
   have HR:=O (HR1.out.trans (if_pos (of_decide_eq_true c1)))
   go_wp2_with fail
   go_ret
   rw [HR.out];exact ⟨rfl,Q3.out.to rfl rfl rfl rfl⟩
  have HR2:=O (HR1.out.trans (if_neg (of_decide_eq_false c1)));clear HR1
  cases c2:decide ((16:Int)≤(its.length:Int))
  case true=>
   have HR:=O (HR2.out.trans (if_pos (by have:=of_decide_eq_true c2;omega)))
   go_wp2_with fail
   go_ret
   rw [HR.out];exact ⟨rfl,Q3.out.to rfl rfl rfl rfl⟩
  have HR:=O (HR2.out.trans (if_neg (by have:=of_decide_eq_false c2;omega)));clear HR2;have hn16:its.length<16:=by have:=of_decide_eq_false c2;omega
  have hsv:=fun V (hV:Fr No w3 V)=>(Q3.out.step hV).oi.1;have hxl:=Q3.out.oi.1.1;have happ:=fun V W v' (hV:Fr No w3 V) ha=>(Q3.out.step hV).app (W' :=W) (news:=[.int .i64 sq,.string vl]) (m:=1) (v' :=v') ha;have hq3:q<w3.heap.size:=Q3.out.bq.lt;have hg3:g1<w3.heap.size:=Q3.out.bg.lt;have ayg :q≠w3.heap.size:=by omega
  have hg3' :g1≠w3.heap.size:=by omega
  obtain ⟨HSV,akz⟩:=aN hsv happ;clear hsv happ
  go_upto_region 9 with fail
  go_region_law (refine aI _ (by rfl) (.tmp 30) (.tmp 36) _ (by rfl) 0 TIt i1 _ 2 24 Tryz.underlying197 HI1.out HZ0.out HZ1.out HZ2.out rfl dcd (.slice Ai its.length ci) its.length (itV its) (by rfl) (HSV.out _ (((Fr.refl No w3).drew).alloc _)) (w3.heap.size+1) (some ⟨w3.heap.size,0,none⟩) 1 1 [.int .i64 sq,.string vl] (by rfl) (fun h=>by cases h) (Rd.new w3.drew _ TIt rfl) rfl (by simp [Value.oneCell']) mxl oy (Nat.zero_le _) ?_;intro v1 w6 happ;have Q6:=O (akz.out _ _ _ (((Fr.refl No w3).drew).alloc _) happ);clear happ;obtain ⟨A1,cc1,rfl,-⟩:=Q6.out.oi.form;obtain ⟨⟨q0_,q1_,q2_⟩,⟨z0_,z1_,z2_⟩,xx_⟩:=Q6.out.cells;have x1_:=xx_ 1;have x7_:=xx_ 7;simp only [List.getElem?_cons_succ,List.getElem?_cons_zero] at x1_ x7_;clear xx_)
  all_goals go_wp2_with fail
  all_goals go_ret
  all_goals rw [HR.out]
  all_goals refine ⟨rfl,((Q6.out.aC 0 (.slice A1 (its.length+1) cc1) rfl).aC 2 (.int .i64 sq) rfl).to (by simp) (by simp [itV,It.cells]) rfl rfl⟩
 have HR1:=O (HR0.out.trans (if_neg k3));clear HR0
 by_cases k4:kd=4
 rotate_left
 ·have HR:=O (HR1.out.trans (if_neg k4))
  go_wp2_with fail
  all_goals go_ret
  all_goals rw [HR.out]
  all_goals exact ⟨rfl,Q2.out.to rfl rfl rfl rfl⟩
 subst k4;have HR2:=O (HR1.out.trans (if_pos rfl));clear HR1;have hg2:g1<w2.heap.size:=Q2.out.bg.lt
 go_wp2_with fail
 refine (amd HAI.out Q2.out.oi.rd hic ath g1 it x5 hg2).mono ?_;rintro r w4 ⟨rfl,f4⟩;have Q4:=O (Q2.out.step f4);clear Q2 f4 q0 q1 q2 z0 z1 z2 x0 x1 x2 x3 x4 x5 x6 x7;obtain ⟨⟨q0,q1,q2⟩,⟨z0,z1,z2⟩,xx⟩:=Q4.out.cells;have x0:=xx 0;have x1:=xx 1;have x2:=xx 2;have x3:=xx 3;have x4:=xx 4;have x5:=xx 5;have x6:=xx 6;have x7:=xx 7;simp only [List.getElem?_cons_succ,List.getElem?_cons_zero] at x0 x1 x2 x3 x4 x5 x6 x7;clear xx
 cases ca:its.any (fun t=>t.nm == it)
 ·have hidx:yQ (fun t=>t.nm == it) its= -1:=by unfold yQ;rw [ca];rfl
  have HR:=O (HR2.out.trans (if_neg (by rw [ca];decide)));rw [hidx];clear hidx
  go_wp2_with fail
  all_goals go_ret
  all_goals rw [HR.out]
  all_goals exact ⟨rfl,Q4.out.to rfl rfl rfl rfl⟩
 have HR:=O (HR2.out.trans (if_pos ca));clear HR2;obtain ⟨k,hk1,hk2,hk3⟩:∃k:Nat,yQ (fun t=>t.nm == it) its=(k:Int)∧k<its.length∧its.eraseP (fun t=>t.nm == it)=its.take k++its.drop (k+1):=by
  refine ⟨its.findIdx (fun t=>t.nm == it),by unfold yQ;rw [ca];rfl,List.findIdx_lt_length.2 ?_,?_⟩
  ·simpa using ca
  ·rw [List.eraseP_eq_eraseIdx,List.findIdx?_eq_some_of_exists (by simpa using ca)]
   exact List.eraseIdx_eq_take_drop_succ ..
 rw [hk1];clear hk1 ca;have HK3:=O hk3;clear hk3;have d0:decide ((k:Int)<0)=false:=dff;unfold maxLen at ath;obtain ⟨r,hr⟩:∃r,its.length=k+1+r:=⟨its.length-(k+1),by omega⟩;have hdel:=anj Q4.out.oi.self (uL its) hr;have HR_:=O hr;clear hr
 go_wp2_with fail
 refine hdel.mono ?_;clear hdel;rintro v5 w5 ⟨rfl,o5,f5⟩;have Q5:=O (Q4.out.asr f5 (o5.mono fun i e=>Q4.out.oi.2 i e));clear Q4 o5 f5 q0 q1 q2 z0 z1 z2 x0 x1 x2 x3 x4 x5 x6 x7;obtain ⟨⟨q0,q1,q2⟩,⟨z0,z1,z2⟩,xx⟩:=Q5.out.cells;have x0:=xx 0;have x1:=xx 1;have x2:=xx 2;have x3:=xx 3;have x4:=xx 4;have x5:=xx 5;have x6:=xx 6;have x7:=xx 7;simp only [List.getElem?_cons_succ,List.getElem?_cons_zero] at x0 x1 x2 x3 x4 x5 x6 x7;clear xx
 go_wp2_with fail
 have Q6:=O (Q5.out.aC 0 (.slice Ai (k+r) ci) rfl);refine (ani Q6.out.ol.self g1 (fun l=>l.it == it) (fun V hV x=> ?_)).mono ?_
 ·have bV:Blk V g1 TCh _:=Q6.out.bg.fr hV (fun e=>Q6.out.ol.aW Q6.out.bg dcd _ e rfl)
  exact anm x g1 it (bV.cell 5) bV.lt
 rintro v7 w7 ⟨rfl,o7,f7⟩;have Q7:=O (Q6.out.av0 f7 (o7.mono fun i e=>Q6.out.ol.2 i e));clear Q5 Q6 o7 f7 q0 q1 q2 z0 z1 z2 x0 x1 x2 x3 x4 x5 x6 x7;obtain ⟨⟨q0,q1,q2⟩,⟨z0,z1,z2⟩,xx⟩:=Q7.out.cells;have x0:=xx 0;have x1:=xx 1;have x2:=xx 2;have x3:=xx 3;have x4:=xx 4;have x5:=xx 5;have x6:=xx 6;have x7:=xx 7;simp only [List.getElem?_cons_succ,List.getElem?_cons_zero] at x0 x1 x2 x3 x4 x5 x6 x7;clear xx
 go_wp2_with fail
 go_ret
 rw [HR.out];refine ⟨rfl,(Q7.out.aC 1 (.slice Al (les.filter fun l=> !(l.it == it)).length cl') rfl).to ?_ ?_ rfl rfl⟩
 ·rw [HK3.out];have:=HR_.out;simp;omega
 ·rw [HK3.out,aff,afg];simp [itV]
end Go.Proofs.YtodkhcbjpodgeaaGreat
