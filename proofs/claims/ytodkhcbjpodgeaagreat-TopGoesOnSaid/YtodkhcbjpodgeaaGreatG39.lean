/-
  A write of a client at the home.
-/
import Derived.Test.YtodkhcbjpodgeaaGreatG31
import Derived.Test.YtodkhcbjpodgeaaGreatG38
namespace Go.Proofs.YtodkhcbjpodgeaaGreat
open Go.ChangeShapes Go.WideShapes Go.ChangeAt Go.RowKit
set_option linter.unusedVariables false
set_option maxRecDepth 100000
set_option maxHeartbeats 4000000
section
set_option linter.unusedSimpArgs false
set_option linter.unusedSectionVars false
variable {w w' :World}{lab lab' :Nat→Option Nat}{M:PM}{P:Pr}{G:Nat→Prop}
theorem agi (X:Int):bits BinOp.and IntKind.i64 X 1=X % 2:=by
 have e:(BitVec.ofInt 64 X &&& BitVec.ofInt 64 1).toNat=(X % 2 ^ 64).toNat % 2:=by
  rw [BitVec.toNat_and,BitVec.toNat_ofInt,show (BitVec.ofInt 64 1).toNat=1 from rfl,Nat.and_one_is_mod]
  norm_cast
 show IntKind.i64.wrap ((BitVec.ofInt 64 X &&& BitVec.ofInt 64 1).toNat:Int)=X % 2
 rw [e,IntKind.wrap_i64]
 omega
theorem aP {V:World}{g:Nat}{a0 a1 a2 a3 a4 a5 a6 a7 a8 a9 a10:Value}(h:Blk V g fU #[a0,a1,a2,a3,a4,a5,a6,a7,a8,a9,a10]):V.cell? ⟨g,0,none⟩=some a0∧V.cell? ⟨g,1,none⟩=some a1∧V.cell? ⟨g,2,none⟩=some a2∧V.cell? ⟨g,3,none⟩=some a3∧V.cell? ⟨g,4,none⟩=some a4∧V.cell? ⟨g,5,none⟩=some a5∧V.cell? ⟨g,6,none⟩=some a6∧V.cell? ⟨g,7,none⟩=some a7∧V.cell? ⟨g,8,none⟩=some a8∧V.cell? ⟨g,9,none⟩=some a9∧V.cell? ⟨g,10,none⟩=some a10:=⟨h.cell 0,h.cell 1,h.cell 2,h.cell 3,h.cell 4,h.cell 5,h.cell 6,h.cell 7,h.cell 8,h.cell 9,h.cell 10⟩
theorem bP.base {V:World}{Q:Pr}(hf:Fr No w V)(h:bP V lab M Q w'):bP w lab M Q w' :=by
 obtain ⟨l,a,e,f⟩:=h;exact ⟨l,a,fun b hb=>e b (nll hb hf.size),(hf.mono fun _ h=>h.elim).trans f fun b hb=> .inl hb⟩
theorem al2 {V:World}{Q:Pr}(h:Blk V M.q fU (prC M Q).toArray)(hL:Q.nu.length=4){k:Nat}(hk:k<4)(x:Int):Blk (V.setCell ⟨M.q,6+k,none⟩ (.int .i64 x)) M.q fU (prC M {Q with nu:=Q.nu.set k x,dS:=Q.dS}).toArray:=by
 obtain ⟨a,b,c,d,e⟩:∃a b c d,Q.nu=[a,b,c,d]:=by
  match hn:Q.nu,hL with
  |[a,b,c,d],_=>exact ⟨a,b,c,d,rfl⟩
 obtain rfl|rfl|rfl|rfl:k=0∨k=1∨k=2∨k=3:=by omega
 all_goals exact Blk.cv (h.aC _ _) (by simp [prC,e])
theorem uE {V:World}{Q:Pr}(h:Blk V M.q fU (prC M Q).toArray){k:Nat}(hk:k<4):V.cell? ⟨M.q,6+k,none⟩=some (.int .i64 (Q.nu.getD k 0)):=by
 obtain ⟨c0,c1,c2,c3,c4,c5,c6,c7,c8,c9,c10⟩:=aP h;obtain rfl|rfl|rfl|rfl:k=0∨k=1∨k=2∨k=3:=by omega
 ·exact c6
 ·exact c7
 ·exact c8
 ·exact c9
theorem ak5 {w2 V V' :World}{d:Kp}(h:eH w2 lab M P)(hV:Fr No w2 V)(hc:CTo V (aT lab 1) M.hp d V'):Fr (aT lab 1) w2 V'∧bP w2 lab M {P with home:=d} V' :=
 ⟨(hV.mono fun _ h=>h.elim:Fr (aT lab 1) w2 V).trans hc.choose_spec.2.2 fun b hb=> .inl hb,bP.base hV ((h.still hV).ajm hc)⟩
theorem asi {V:World}{Q:Pr}{k:Nat}{x:Int}(hlt:∀b j,lab b=some j→b<w.heap.size)(h:bP w lab M Q V)(hL:Q.nu.length=4)(hk:k<4):bP w lab M {Q with nu:=Q.nu.set k x} (V.setCell ⟨M.q,6+k,none⟩ (.int .i64 x)).drew:=
 h.then hlt fun cZ a1=>((a1.oD (nu:=Q.nu.set k x) (ac:=Q.dS) (al2 a1.blk hL hk x) ((Fr.refl (fun b=>b=M.q) V).setCell (p:=⟨M.q,6+k,none⟩) (.inl rfl) _)).then a1.lt fun dW a2=>a2.self ((Fr.refl _ _).drew))
set_option maxHeartbeats 8000000 in
theorem iB (h:eH w lab M P){n:Nat}(ho:iI P n)(hn:n≤1000)(cl op:Int):
  Calls Tryz.prog 57 #[.pointer (some ⟨M.q,0,none⟩),.int .i64 cl,.int .i64 op] w fun e w' =>e= .returned (.tuple #[])∧bP w lab M (fC P cl op) w' :=by
 have hk:(cl % 4).toNat<4:=by omega
 obtain ⟨H,HO⟩:=aN h ho;have hand:=agi op;obtain ⟨c0,c1,c2,c3,c4,c5,c6,c7,c8,c9,c10⟩:=aP h.blk;have hck:=uE h.blk hk;obtain ⟨r1,r2,r3,r4,r5⟩:=zS ho hn cl op;obtain ⟨x,hx⟩:∃x,x=P.nu.getD (cl % 4).toNat 0:=⟨_,rfl⟩;have hxb:=ho.nu (cl % 4).toNat;rw [←hx] at hck hxb;have hrd:qQ P cl op=⟨0,cl % 4+1,x+1,if op % 2=0 then 4 else 2,0,if op % 2=0 then noS else kS,vS⟩:=by rw [hx];rfl
 have aqc:∀X,X=exF P.home 0 5 (qQ P cl op)→fC P cl op={P with home:=X.2,nu:=if X.1.er=0 then P.nu.set (cl % 4).toNat (x+1) else P.nu}:=fun X e=>by rw [e,hx];rfl
 have hex:∀V,Fr No w V→Calls Tryz.prog 10 #[.pointer (some ⟨M.hp,0,none⟩),.int .i64 0,.int .i64 5,.agg (qQ P cl op).arr] V fun e w' =>e= .returned (.agg (exF P.home 0 5 (qQ P cl op)).1.arr)∧CTo V (aT lab 1) M.hp (exF P.home 0 5 (qQ P cl op)).2 w' :=fun V hV=>
  xA (h.still hV).home (qQ P cl op) r4 r5 r1 r2 (by have:=ho.b.h;omega) (by have:=ho.b.its;omega) ho.b.les 0 5 dcd dcd (fun e=>absurd e r3)
 generalize exF P.home 0 5 (qQ P cl op)=X at hex aqc;have hwd:=aqc X rfl;clear aqc;rw [hrd] at hex;obtain ⟨⟨xe,xs,xi,xv⟩,Xc⟩:=X;simp only [Rp.arr,Rq.arr] at hex hwd;have hfd:∀W:World,(Instr.field TRp (.agg #[.int .i64 xe,.int .i64 xs,.int .i64 xi,.string xv]) 0).run Tryz.prog W= .ok (.int .i64 xe) W:=fun _=>by kernel_rfl
 have hlt:=h.blk.lt;obtain ⟨HEX,HWD,HXX⟩:=bC hex hwd hx;clear h ho r1 r2 r3 r4 r5 hrd hex hwd hx
 go_in
 go_upto_region 2 with (go_at_call 9;refine (dR _ _ _ dcd dcd).mono ?_;rintro e w' ⟨rfl,rfl⟩)
 obtain ⟨rop,hro⟩:∃rop:Int,rop=if op % 2=0 then 4 else 2:=⟨_,rfl⟩
 obtain ⟨rky,hrk⟩:∃rky:ByteArray,rky=if op % 2=0 then noS else kS:=⟨_,rfl⟩
 have apa:=O (by rw [hro,hrk];exact HEX.out:∀V,Fr No w V→Calls Tryz.prog 10 #[.pointer (some ⟨M.hp,0,none⟩),.int .i64 0,.int .i64 5,.agg #[.int .i64 0,.int .i64 (cl % 4+1),.int .i64 (x+1),.int .i64 rop,.int .i64 0,.string rky,.string vS]] V fun e w' =>e= .returned (.agg #[.int .i64 xe,.int .i64 xs,.int .i64 xi,.string xv])∧CTo V (aT lab 1) M.hp Xc w');clear HEX;obtain ⟨g,hg⟩:∃g,g=w.heap.size:=⟨_,rfl⟩;have f1:=aj w (.cells #[.int .i64 0,.int .i64 (cl % 4+1),.int .i64 (x+1),.int .i64 2,.int .i64 0,.string ⟨#[107]⟩,.string ⟨#[118]⟩] TRq);have b1:Blk (w.alloc (.cells #[.int .i64 0,.int .i64 (cl % 4+1),.int .i64 (x+1),.int .i64 2,.int .i64 0,.string ⟨#[107]⟩,.string ⟨#[118]⟩] TRq)) g TRq #[.int .i64 0,.int .i64 (cl % 4+1),.int .i64 (x+1),.int .i64 2,.int .i64 0,.string ⟨#[107]⟩,.string ⟨#[118]⟩]:=by rw [hg];exact Blk.new _ _ _
 have htail:∀V,Fr No w V→Blk V g TRq #[.int .i64 0,.int .i64 (cl % 4+1),.int .i64 (x+1),.int .i64 rop,.int .i64 0,.string rky,.string vS]→∀V',Fr (aT lab 1) V V'→
   V'.cell? ⟨M.q,0,none⟩=some (pp M.hp)∧(V'.cell? ⟨g,0,none⟩=some (.int .i64 0)∧V'.cell? ⟨g,1,none⟩=some (.int .i64 (cl % 4+1))∧V'.cell? ⟨g,2,none⟩=some (.int .i64 (x+1))∧V'.cell? ⟨g,3,none⟩=some (.int .i64 rop)∧V'.cell? ⟨g,4,none⟩=some (.int .i64 0)∧V'.cell? ⟨g,5,none⟩=some (.string rky)∧V'.cell? ⟨g,6,none⟩=some (.string vS)):=fun V hV hb V' hV' =>by
  have hq:=((H.out.still hV).blk.fr hV' (neK dcd M.q H.out.q0));have hb' :=hb.fr hV' (fun e=>by have:=H.out.lt g 1 e;omega);exact ⟨hq.cell 0,hb'.cell 0,hb'.cell 1,hb'.cell 2,hb'.cell 3,hb'.cell 4,hb'.cell 5,hb'.cell 6⟩
 have HTL:=O htail;clear htail;generalize w.alloc (.cells #[.int .i64 0,.int .i64 (cl % 4+1),.int .i64 (x+1),.int .i64 2,.int .i64 0,.string ⟨#[107]⟩,.string ⟨#[118]⟩] TRq)=w1 at f1 b1 ⊢;rw [←hg];obtain ⟨x0,x1,x2,x3,x4,x5,x6⟩:=lN (r:=⟨0,cl % 4+1,x+1,2,0,⟨#[107]⟩,⟨#[118]⟩⟩) b1;have z3:=b1.frozen 3;have z5:=b1.frozen 5;have hgl:g<w1.heap.size:=b1.lt;have hgw:w.heap.size≤g:=by omega
 obtain ⟨F1,B1⟩:=aN f1 b1;clear hg f1 b1 c0 c1 c2 c3 c4 c5 c6 c7 c8 c9 c10 hck
 cases d1:(op % 2 == 0)
 ·have hop:¬op % 2=0:=by simpa using d1
  rw [if_neg hop] at hro hrk;subst hro hrk
  go_upto_region 4 with fail
  have HR:=O (HTL.out _ F1.out B1.out);clear HTL;obtain ⟨c0,x0,x1,x2,x3,x4,x5,x6⟩:=HR.out _ (Fr.refl _ _);have hx:∀V,Fr No w1 V→Calls Tryz.prog 10 #[.pointer (some ⟨M.hp,0,none⟩),.int .i64 0,.int .i64 5,.agg #[.int .i64 0,.int .i64 (cl % 4+1),.int .i64 (x+1),.int .i64 2,.int .i64 0,.string kS,.string vS]] V fun e w' =>e= .returned (.agg #[.int .i64 xe,.int .i64 xs,.int .i64 xi,.string xv])∧Fr (aT lab 1) w1 w'∧bP w1 lab M {P with home:=Xc} w' :=fun V hV=>
   (apa.out V (F1.out.ah hV)).mono fun e V' ⟨h1,h2⟩=>⟨h1,ak5 (H.out.still F1.out) hV h2⟩
  have HX:=O hx;clear hx apa
  go_region_held3 (fun V=>V.cell? ⟨M.q,0,none⟩=some (pp M.hp)∧(V.cell? ⟨g,0,none⟩=some (.int .i64 0)∧V.cell? ⟨g,1,none⟩=some (.int .i64 (cl % 4+1))∧V.cell? ⟨g,2,none⟩=some (.int .i64 (x+1))∧V.cell? ⟨g,3,none⟩=some (.int .i64 2)∧V.cell? ⟨g,4,none⟩=some (.int .i64 0)∧V.cell? ⟨g,5,none⟩=some (.string kS)∧V.cell? ⟨g,6,none⟩=some (.string vS))) ((refine HR.out _ ?_;(with_reducible ((repeat (first|assumption|exact Fr.refl _ _|refine Fr.alloc ?_ _|refine Fr.drew ?_|refine Fr.drewN ?_ _|refine Fr.setCell ?_ (.inr (Nat.le_refl _)) _));done)))) (first
   |(go_at_call 10;refine (HX.out _ (by with_reducible ((repeat (first|assumption|exact Fr.refl _ _|refine Fr.alloc ?_ _|refine Fr.drew ?_|refine Fr.drewN ?_ _));done))).mono ?_;rintro r2 v3 ⟨rfl,Q3,Q4⟩))
  have HQ4:=O Q4;obtain ⟨cZ,a1,e1,g1⟩:=Q4;have hck:v3.cell? ⟨M.q,6+(cl % 4).toNat,none⟩=some (.int .i64 x):=by rw [HXX.out];exact uE a1.blk hk
  have hfz:=a1.blk.frozen (6+(cl % 4).toNat);obtain ⟨y0,y1,y2,y3,y4,y5,y6,y7,y8,y9,y10⟩:=aP a1.blk;clear Q3 e1 g1 a1 c0 x0 x1 x2 x3 x4 x5 x6 hfd HX HR
  cases d2:(xe == 0)
  ·have hxe:¬xe=0:=by simpa using d2
   go_wp2_with fail
   refine bodyPost_end (results_none rfl _ _ _) rfl ⟨rfl,bP.base F1.out ?_⟩;rw [HWD.out,if_neg hxe];exact HQ4.out
  ·have hxe:xe=0:=by simpa using d2
   go_upto_region 5 with fail
   go_region
   refine bodyPost_end (results_none rfl _ _ _) rfl ⟨rfl,bP.base F1.out ?_⟩;rw [HWD.out,if_pos hxe];exact asi (fun b j hb=>nll (H.out.lt b j hb) F1.out.size) HQ4.out HO.out.nuL hk
 ·have hop:op % 2=0:=by simpa using d1
  rw [if_pos hop] at hro hrk;subst hro hrk
  go_upto_region 4 with fail
  have f2:Fr No w ((w1.setCell ⟨g,3,none⟩ (.int .i64 4)).setCell ⟨g,5,none⟩ (.string ⟨#[]⟩)):=(F1.out.setCell (p:=⟨g,3,none⟩) (.inr hgw) _).setCell (p:=⟨g,5,none⟩) (.inr hgw) _;have b2:Blk ((w1.setCell ⟨g,3,none⟩ (.int .i64 4)).setCell ⟨g,5,none⟩ (.string ⟨#[]⟩)) g TRq #[.int .i64 0,.int .i64 (cl % 4+1),.int .i64 (x+1),.int .i64 4,.int .i64 0,.string noS,.string vS]:=Blk.cv ((B1.out.aC 3 _).aC 5 _) (by simp [noS,vS]);generalize (w1.setCell ⟨g,3,none⟩ (.int .i64 4)).setCell ⟨g,5,none⟩ (.string ⟨#[]⟩)=w2 at f2 b2 ⊢;obtain ⟨F2,B2⟩:=aN f2 b2;clear f2 b2 B1 F1;have HR:=O (HTL.out _ F2.out B2.out);clear HTL;obtain ⟨c0,x0,x1,x2,x3,x4,x5,x6⟩:=HR.out _ (Fr.refl _ _);have hx:∀V,Fr No w2 V→Calls Tryz.prog 10 #[.pointer (some ⟨M.hp,0,none⟩),.int .i64 0,.int .i64 5,.agg #[.int .i64 0,.int .i64 (cl % 4+1),.int .i64 (x+1),.int .i64 4,.int .i64 0,.string noS,.string vS]] V fun e w' =>e= .returned (.agg #[.int .i64 xe,.int .i64 xs,.int .i64 xi,.string xv])∧Fr (aT lab 1) w2 w'∧bP w2 lab M {P with home:=Xc} w' :=fun V hV=>
   (apa.out V (F2.out.ah hV)).mono fun e V' ⟨h1,h2⟩=>⟨h1,ak5 (H.out.still F2.out) hV h2⟩
  have HX:=O hx;clear hx apa
  go_region_held3 (fun V=>V.cell? ⟨M.q,0,none⟩=some (pp M.hp)∧(V.cell? ⟨g,0,none⟩=some (.int .i64 0)∧V.cell? ⟨g,1,none⟩=some (.int .i64 (cl % 4+1))∧V.cell? ⟨g,2,none⟩=some (.int .i64 (x+1))∧V.cell? ⟨g,3,none⟩=some (.int .i64 4)∧V.cell? ⟨g,4,none⟩=some (.int .i64 0)∧V.cell? ⟨g,5,none⟩=some (.string noS)∧V.cell? ⟨g,6,none⟩=some (.string vS))) ((refine HR.out _ ?_;(with_reducible ((repeat (first|assumption|exact Fr.refl _ _|refine Fr.alloc ?_ _|refine Fr.drew ?_|refine Fr.drewN ?_ _|refine Fr.setCell ?_ (.inr (Nat.le_refl _)) _));done)))) (first
   |(go_at_call 10;refine (HX.out _ (by with_reducible ((repeat (first|assumption|exact Fr.refl _ _|refine Fr.alloc ?_ _|refine Fr.drew ?_|refine Fr.drewN ?_ _));done))).mono ?_;rintro r2 v3 ⟨rfl,Q3,Q4⟩))
  have HQ4:=O Q4;obtain ⟨cZ,a1,e1,g1⟩:=Q4;have hck:v3.cell? ⟨M.q,6+(cl % 4).toNat,none⟩=some (.int .i64 x):=by rw [HXX.out];exact uE a1.blk hk
  have hfz:=a1.blk.frozen (6+(cl % 4).toNat);obtain ⟨y0,y1,y2,y3,y4,y5,y6,y7,y8,y9,y10⟩:=aP a1.blk;clear Q3 e1 g1 a1 c0 x0 x1 x2 x3 x4 x5 x6 hfd HX HR
  cases d2:(xe == 0)
  ·have hxe:¬xe=0:=by simpa using d2
   go_wp2_with fail
   refine bodyPost_end (results_none rfl _ _ _) rfl ⟨rfl,bP.base F2.out ?_⟩;rw [HWD.out,if_neg hxe];exact HQ4.out
  ·have hxe:xe=0:=by simpa using d2
   go_upto_region 5 with fail
   go_region
   refine bodyPost_end (results_none rfl _ _ _) rfl ⟨rfl,bP.base F2.out ?_⟩;rw [HWD.out,if_pos hxe];exact asi (fun b j hb=>nll (H.out.lt b j hb) F2.out.size) HQ4.out HO.out.nuL hk
end
section
set_option linter.unusedSimpArgs false
set_option linter.unusedSectionVars false
variable {w w' :World}{lab lab' :Nat→Option Nat}{M:PM}{P:Pr}{G:Nat→Prop}
theorem al9 {i j:Int}(h:i≠j):kI i≠kI j:=fun e=>by
 unfold kI at e;injection e with e1 e2;exact h e2
theorem aL.isMap {l:Nat}{ep lag ak:Int}{D:DataW Unit}{F:Nat→Prop}(h:aL w F l ep lag ak D):Maps.IsMap D:=by
 obtain ⟨m,_,_,_,_,hp⟩:=h.parts;exact (hp w (Fr.refl _ _)).2.isMap
theorem zC.put {D:DataW Unit}{pg:Nat→Option Pg}(h:zC D pg)(hD:Maps.IsMap D){i:Nat}(hi:i<2)(p:Pg):zC (D.put (kI ((i:Int)+1)) (pgD p)) (fD pg i (some p)):=by
 intro j hj;have hk:WideAt.IsKeyLit (kI ((i:Int)+1)):=by unfold kI;trivial
 by_cases e:j=i
 ·subst e
  rw [upd_same];exact ⟨Maps.has_put_same hD hk _,Maps.atKey_put_same hD hk _ _⟩
 ·rw [aF _ _ e]
  have hne:kI ((j:Int)+1)≠kI ((i:Int)+1):=al9 oy;have:=h j hj
  cases hp:pg j with
  |none=>rw [hp] at this;simp only at this ⊢;rw [Maps.has_put_other hne];exact this
  |some q=>rw [hp] at this;simp only at this ⊢;rw [Maps.has_put_other hne,Maps.atKey_put_other hne];exact this
theorem aau (h:eH w lab M P){n:Nat}(ho:iI P n){i:Nat}(hi:i<2){p:Pg}(hp:P.pg i=some p){x:Hd}(hx:x∈P.hd i):
  Calls Tryz.prog 27 #[.pointer (some ⟨M.l,0,none⟩),.int .i64 ((i:Int)+1),.agg #[.int .i64 x.ep,.int .i64 x.ap,.bool x.ok]] w fun e w' =>e= .returned (.bool true)∧Fr (aT lab 2) w w'∧bP w lab M {P with pg:=fD P.pg i (some (gZ p x))} w' :=by
 obtain ⟨D,hL,hR⟩:=h.lead;have hr:=hR i hi;rw [hp] at hr;have hx2:=(ho.hd i hi).2 x hx;refine (xq hL _ oy oy x p hr.1 hr.2 hx2.ep hx2.ap0 hx2.apM).mono ?_;rintro e w' ⟨rfl,h1,h2⟩;exact ⟨rfl,h2,h.jJ (ak:=P.ak) h1 (hR.put hL.isMap hi _) h2⟩
theorem sH:(Tryz.prog.info? TSh).map (fun i=>(i.zero,i.size,i.bytes))=some (some (.agg #[.int .i64 0,.int .i64 0,.int .i64 0,.slice none 0 0]),4,48):=by kernel_rfl
theorem oJ:(Tryz.prog.info? THd).map (fun i=>(i.zero,i.size,i.bytes))=some (some (.agg #[.int .i64 0,.int .i64 0,.bool false]),3,24):=by kernel_rfl
theorem mG (h:eH w lab M P){n:Nat}(ho:iI P n)(hn:n≤1000){i:Nat}(hi:i<2){m:Sh}(hm:ade P.e P.home.h m){A:Option Addr}{cc k:Nat}(hk:¬(k=10+i∨k=20+i))(hmo:aA w (fun b=>lab b=some k∨lab b=none) TCh 8 (.slice A m.cs.length cc) m.cs.length (chV m.cs)):
  Calls Tryz.prog 26 #[.pointer (some ⟨M.fp i,0,none⟩),.agg #[.int .i64 m.ep,.int .i64 m.sq,.int .i64 m.bf,.slice A m.cs.length cc]] w fun e w' =>e= .returned (.tuple #[.agg #[.int .i64 (bS (P.fo i).seen (P.fo i).agr (P.fo i).c m).r.ep,.int .i64 (bS (P.fo i).seen (P.fo i).agr (P.fo i).c m).r.ap,.bool (bS (P.fo i).seen (P.fo i).agr (P.fo i).c m).r.ok],.int .i64 0])∧
   Fr (fun b=>lab b=some (10+i)∨lab b=some (20+i)) w w'∧bP w lab M {P with fo:=fD P.fo i ⟨(bS (P.fo i).seen (P.fo i).agr (P.fo i).c m).c,(bS (P.fo i).seen (P.fo i).agr (P.fo i).c m).seen,(bS (P.fo i).seen (P.fo i).agr (P.fo i).c m).agr⟩} w' :=by
 obtain ⟨q1,q2,T,q4,q5,q6,q7⟩:=ny ho hn hi hm rfl;have e20:=(h.fb i hi).1;have hnf:¬aT lab (10+i) (M.fp i):=neK oy _ e20;obtain ⟨A',c',ev,hA⟩:=hmo.form;injection ev with ev1 ev2 ev3;subst ev1;refine (ab5 (h.fo i hi) (ho.fl i hi).2.1 (h.fb i hi).2 hnf m (fun W hW=> ?_) hA hmo.cap.1 hmo.cap.2 q1 q2).mono ?_
 ·refine (hmo.fr' hW fun g hg e=> ?_).rd
  rcases hmo.2 g hg with e5|e5
  ·rcases e with e|e
   ·have e:lab g=some (10+i):=e
    rw [e] at e5;injection e5 with e5;omega
   ·rw [e,e20] at e5;injection e5 with e5;omega
  ·rcases e with e|e
   ·have e:lab g=some (10+i):=e
    rw [e] at e5;cases e5
   ·rw [e,e20] at e5;cases e5
 ·rintro e w' ⟨h1,h2⟩
  exact ⟨h1,h2.2.choose_spec.2.2.mono fun b hb=>hb.elim .inl fun e=> .inr (by rw [e];exact e20),h.ah7 hi h2⟩
theorem mI (h:eH w lab M P){n:Nat}(ho:iI P n)(hn:n≤1000){i:Nat}(hi:i<2){p:Pg}(hp:P.pg i=some p){W:World}(hW:Fr No w W){A:Option Addr}{c:Nat}(hc:aA W (fun b=>w.heap.size≤b) TCh 8 (.slice A P.home.h.length c) P.home.h.length (chV P.home.h)):
  Calls Tryz.prog 25 #[.pointer (some ⟨M.l,0,none⟩),.int .i64 ((i:Int)+1),.slice A P.home.h.length c] W fun e w' =>∃A2 c2,e= .returned (.tuple #[.agg #[.int .i64 (dz P.e p P.home.h).ep,.int .i64 (dz P.e p P.home.h).sq,.int .i64 (dz P.e p P.home.h).bf,.slice A2 (dz P.e p P.home.h).cs.length c2],.bool true])∧
   aA w' (fun b=>w.heap.size≤b) TCh 8 (.slice A2 (dz P.e p P.home.h).cs.length c2) (dz P.e p P.home.h).cs.length (chV (dz P.e p P.home.h).cs)∧Fr No w w'∧Fr No W w' :=by
 obtain ⟨D,hL,hR⟩:=(h.still hW).lead;have hr:=hR i hi;rw [hp] at hr;have hpp:=ho.pg i hi;rw [hp] at hpp;obtain ⟨A',c',ev,hA⟩:=hc.form;injection ev with ev1 ev2 ev3;subst ev1;refine (aef hL _ oy oy hc.rd hA hc.cap.1 hc.cap.2 (by have:=ho.hl;omega) p hr.1 hr.2 (Int.le_trans hpp.ap0 hpp.nx)).mono ?_;rintro e w' ⟨A2,c2,rfl,h1,h2⟩;exact ⟨A2,c2,rfl,h1.mono fun b hb=>Nat.le_trans hW.size hb,hW.ah h2,h2⟩
theorem mH (h:eH w lab M P){i:Nat}(hi:i<2)(hp:P.pg i=none){W:World}(hW:Fr No w W)(hs:Value):
  Calls Tryz.prog 25 #[.pointer (some ⟨M.l,0,none⟩),.int .i64 ((i:Int)+1),hs] W fun e w' =>e= .returned (.tuple #[.agg #[.int .i64 0,.int .i64 0,.int .i64 0,.slice none 0 0],.bool false])∧Fr No w w'∧Fr No W w' :=by
 obtain ⟨D,hL,hR⟩:=(h.still hW).lead;have hr:=hR i hi;rw [hp] at hr;refine (yj hL _ oy oy hs hr).mono ?_;rintro e w' ⟨rfl,h2⟩;exact ⟨rfl,hW.ah h2,h2⟩
theorem eH.xk {V W' :World}(h:eH w lab M P)(hV:Fr No w V){i:Nat}(hi:i<2){a:Hd}{v v' :Value}(hv:w.cell? ⟨M.rh,i,none⟩=some v)
  (ha:aJ V 0 THd 3 v (P.hd i).length (hdV (P.hd i)) [.int .i64 a.ep,.int .i64 a.ap,.bool a.ok] 1 v' W'):
  bP w lab M {P with hd:=fD P.hd i (P.hd i++[a])} (W'.setCell ⟨M.rh,i,none⟩ v'):=by
 have k:=h.still hV;obtain ⟨e6,u,hu1,hu2⟩:=k.rh;have hrl:=k.lt _ _ e6;have hvu:v=u i:=Option.some.inj (((hV.cell (p:=⟨M.rh,i,none⟩) (h.lt _ _ e6) id).trans hv).symm.trans (hu1 i hi).1);obtain ⟨o1,f1⟩:=(hu2 i hi).appended (hvu▸ha);have n6:¬aT lab (40+i) M.rh:=neK oy _ e6;have hset:=gU W' ⟨M.rh,i,none⟩ v';have s4:=hset.size;refine bP.base hV (k.ajr hi (v' :=v') (a:=a) ?_ ?_ ?_)
 ·rw [afo]
  refine (o1.fr' hset fun g hg e=> ?_).mono fun b hb=> ?_
  ·have e:g=M.rh:=e
   rcases o1.2 g hg with q|q
   ·rw [e] at q;exact n6 q
   ·omega
  ·rcases hb with hb|hb
   ·exact .inl hb
   ·exact .inr ⟨hb.1,by omega⟩
 ·exact (f1.mono (G:=fun b=>lab b=some (40+i)∨b=M.rh) fun b hb=> .inl hb).setCell (p:=⟨M.rh,i,none⟩) (.inl (.inr rfl)) _
 ·intro j hj
  have c0:=f1.cell (p:=⟨M.rh,j,none⟩) hrl n6;have z0:=f1.frozen (p:=⟨M.rh,j,none⟩) hrl n6;refine ⟨?_,?_⟩
  ·by_cases e:j=i
   ·subst e
    rw [if_pos rfl];exact World.cell?_setCell_same _ _ _ (c0.trans (hu1 j hj).1)
   ·rw [if_neg e,World.cell?_setCell_other _ _ _ _ (by simp<;>omega)]
    exact c0
  ·rw [World.frozen?_setCell]
   exact z0.trans (hu1 j hj).2
theorem eH.om {V1 V W' :World}(h:eH w lab M P){i:Nat}(hi:i<2){m:Sh}{v v' :Value}{vs:List Value}{A:Option Addr}{c:Nat}
  (q1:vs.length=(P.sh i).length) (q2:aA w (aT lab (30+i)) TSh 4 v (P.sh i).length (shV (P.sh i) vs))
  (q3:∀(j:Nat) (m:Sh),(P.sh i)[j]? =some m→∃A c,vs[j]? =some (.slice A m.cs.length c)∧aA w (aT lab 50) TCh 8 (.slice A m.cs.length c) m.cs.length (chV m.cs))
  (h1:Fr No w V1) (hm:aA V1 (fun b=>w.heap.size≤b) TCh 8 (.slice A m.cs.length c) m.cs.length (chV m.cs)) (h2:Fr No V1 V)
  (ha:aJ V 0 TSh 4 v (P.sh i).length (shV (P.sh i) vs) (shC m (.slice A m.cs.length c)) 1 v' W'):
  bP w lab M {P with sh:=fD P.sh i (P.sh i++[m])} (W'.setCell ⟨M.rs,i,none⟩ v'):=by
 have hV:=h1.ah h2;obtain ⟨e5,u,hu1,_⟩:=h.rs;obtain ⟨o1,f1⟩:=(q2.au hV).appended ha;have n5:¬aT lab (30+i) M.rs:=neK oy _ e5;have hset:=gU W' ⟨M.rs,i,none⟩ v';have hrl:=h.lt _ _ e5;have s1:=h1.size;have s2:=h2.size;have s3:=f1.size;have s4:=hset.size;have o2:aA V1 (fun b=>w.heap.size≤b∧b<V1.heap.size) TCh 8 (.slice A m.cs.length c) m.cs.length (chV m.cs):=⟨hm.1,fun g hg=>⟨hm.2 g hg,hm.lt g hg⟩⟩;refine h.aik hi (v:=v) (v' :=v') (vs:=vs) (A:=A) (c:=c) q1 q3 (F' :=fun b=>w.heap.size≤b∧b<V1.heap.size) (K' :=fun b=>b=V.heap.size∧b<W'.heap.size) (fun b hb=>⟨hb.1,by have:=hb.2;omega⟩) (fun b hb=>⟨by omega,by omega,fun hn=>by omega⟩) ?_ ?_ ?_ ?_
 ·refine ((o2.au h2).fr' f1 fun g hg e=> ?_).fr' hset fun g hg e=> ?_
  ·have e:lab g=some (30+i):=e
   have:=h.lt _ _ e;have:=(o2.2 g hg).1
   omega
  ·have e:g=M.rs:=e
   have:=(o2.2 g hg).1
   omega
 ·refine (o1.fr' hset fun g hg e=> ?_).mono fun b hb=>hb
  have e:g=M.rs:=e
  rcases o1.2 g hg with q|q
  ·rw [e] at q;exact n5 q
  ·omega
 ·exact ((hV.mono fun _ h=>h.elim:Fr (fun b=>lab b=some (30+i)∨b=M.rs) w V).trans (f1.mono fun b hb=> .inl hb) fun b hb=> .inl hb).setCell (p:=⟨M.rs,i,none⟩) (.inl (.inr rfl)) _
 ·intro j hj
  have c0:=(f1.cell (p:=⟨M.rs,j,none⟩) (show M.rs<V.heap.size by omega) n5).trans (hV.cell (p:=⟨M.rs,j,none⟩) hrl id);have z0:=(f1.frozen (p:=⟨M.rs,j,none⟩) (show M.rs<V.heap.size by omega) n5).trans (hV.frozen (p:=⟨M.rs,j,none⟩) hrl id);refine ⟨?_,?_⟩
  ·by_cases e:j=i
   ·subst e
    rw [if_pos rfl];exact World.cell?_setCell_same _ _ _ (c0.trans (hu1 j hj).1)
   ·rw [if_neg e,World.cell?_setCell_other _ _ _ _ (by simp<;>omega)]
    exact c0
  ·rw [World.frozen?_setCell]
   exact z0.trans (hu1 j hj).2
theorem vY {w2 v4:World}{g:Nat}{A:Option Addr}{n c:Nat}{xs:List Value}{z0 z1 z2 z3:Value}(f:Fr No w2 v4)(s3:w2.heap.size≤g)(bk:Blk v4 g TSh #[z0,z1,z2,z3])(o:aA v4 (fun b=>w2.heap.size≤b) TCh 8 (.slice A n c) n xs)(x0 x1 x2 x3:Value):
  Blk (World.setCell (World.setCell (World.setCell (World.setCell v4 ⟨g,0,none⟩ x0) ⟨g,1,none⟩ x1) ⟨g,2,none⟩ x2) ⟨g,3,none⟩ x3) g TSh #[x0,x1,x2,x3]∧Fr No w2 (World.setCell (World.setCell (World.setCell (World.setCell v4 ⟨g,0,none⟩ x0) ⟨g,1,none⟩ x1) ⟨g,2,none⟩ x2) ⟨g,3,none⟩ x3)∧aA (World.setCell (World.setCell (World.setCell (World.setCell v4 ⟨g,0,none⟩ x0) ⟨g,1,none⟩ x1) ⟨g,2,none⟩ x2) ⟨g,3,none⟩ x3) (fun b=>w2.heap.size≤b) TCh 8 (.slice A n c) n xs:=by
 have hs:=((((Fr.refl (fun b=>b=g) v4).setCell (p:=⟨g,0,none⟩) (.inl rfl) x0).setCell (p:=⟨g,1,none⟩) (.inl rfl) x1).setCell (p:=⟨g,2,none⟩) (.inl rfl) x2).setCell (p:=⟨g,3,none⟩) (.inl rfl) x3;refine ⟨Blk.cv ((((bk.aC 0 x0).aC 1 x1).aC 2 x2).aC 3 x3) (by simp),(((f.setCell (p:=⟨g,0,none⟩) (.inr s3) x0).setCell (p:=⟨g,1,none⟩) (.inr s3) x1).setCell (p:=⟨g,2,none⟩) (.inr s3) x2).setCell (p:=⟨g,3,none⟩) (.inr s3) x3,o.fr' hs fun k hg e=>o.aW bk dcd k hg e⟩
theorem qY {w2 v4:World}{A:Option Addr}{n c:Nat}{xs:List Value}(f:Fr No w2 v4)(o:aA v4 (fun b=>w2.heap.size≤b) TCh 8 (.slice A n c) n xs)(x0 x1 x2 x3:Value):
  Blk (v4.alloc (.cells #[x0,x1,x2,x3] TSh)) v4.heap.size TSh #[x0,x1,x2,x3]∧Fr No w2 (v4.alloc (.cells #[x0,x1,x2,x3] TSh))∧aA (v4.alloc (.cells #[x0,x1,x2,x3] TSh)) (fun b=>w2.heap.size≤b) TCh 8 (.slice A n c) n xs:=
 ⟨Blk.new _ _ _,f.alloc _,o.au (aj _ _)⟩
theorem eH.off (h:eH w lab M P)(hf:Fr G w w')(hG:∀b j,lab b=some j→¬G b):eH w' lab M P:=by
 have ht:∀b j,lab b=some j→b<w'.heap.size:=fun b j hb=>nll (h.lt b j hb) hf.size;have hi:∀b j,lab b=some j→lab b=some j:=fun _ _ h=>h;exact ⟨ht,h.q0,(h.mW hf hi ht (fun b hb=>hG b _ hb)).2,h.caps,h.mV hf hi ht (fun b hb=>hG b _ hb),h.mU hf hi ht (fun b hb=>hG b _ hb),h.aha hf hi ht (fun b hb=>hG b _ hb),h.ag9 hf hi ht (fun b hb=>hG b _ hb),fun i k=>h.ahb hf hi ht k (fun b hb=>hG b _ hb),fun i k=>h.ahc hf hi ht k (fun b hb=>hG b _ hb),h.ajf hf hi ht (fun b hb=>hG b _ hb) (fun b i hb _=>hG b _ hb),h.ajg hf hi ht (fun b hb=>hG b _ hb) (fun b i hb _=>hG b _ hb)⟩
theorem ng {w2 V v4:World}{gH:Nat}{z0 z1 z2:Value}(hV:Fr No w2 V)(h2:w2.heap.size≤gH)(h3:gH<V.heap.size)(hlt:∀b j,lab b=some j→b<w2.heap.size)(T:bP V lab M P v4)(bk:Blk v4 gH THd #[z0,z1,z2])(x0 x1 x2:Value):
  Blk (World.setCell (World.setCell (World.setCell v4 ⟨gH,0,none⟩ x0) ⟨gH,1,none⟩ x1) ⟨gH,2,none⟩ x2) gH THd #[x0,x1,x2]∧bP w2 lab M P (World.setCell (World.setCell (World.setCell v4 ⟨gH,0,none⟩ x0) ⟨gH,1,none⟩ x1) ⟨gH,2,none⟩ x2):=by
 have hs:=(((Fr.refl (fun b=>b=gH) v4).setCell (p:=⟨gH,0,none⟩) (.inl rfl) x0).setCell (p:=⟨gH,1,none⟩) (.inl rfl) x1).setCell (p:=⟨gH,2,none⟩) (.inl rfl) x2;obtain ⟨l1,a1,e1,f1⟩:=T;refine ⟨Blk.cv (((bk.aC 0 x0).aC 1 x1).aC 2 x2) (by simp),l1,a1.off hs fun b j hb e=> ?_,fun b hb=>e1 b (nll hb hV.size),((hV.mono fun _ h=>h.elim:Fr (fun b=>lab b≠none) w2 V).trans f1 fun b hb=> .inl hb).trans hs fun b e=> .inr (by rw [e];exact h2)⟩;have e:b=gH:=e;rw [e,e1 gH h3] at hb;have:=hlt _ _ hb
 omega
theorem kQ {w2 V v4:World}(hV:Fr No w2 V)(hlt:∀b j,lab b=some j→b<w2.heap.size)(T:bP V lab M P v4)(x0 x1 x2:Value):
  Blk (v4.alloc (.cells #[x0,x1,x2] THd)) v4.heap.size THd #[x0,x1,x2]∧bP w2 lab M P (v4.alloc (.cells #[x0,x1,x2] THd)):=
 ⟨Blk.new _ _ _,(bP.base hV T).then hlt fun l a=>a.self (aj _ _)⟩
end
section
set_option linter.unusedSimpArgs false
set_option linter.unusedSectionVars false
variable {w w' :World}{lab lab' :Nat→Option Nat}{M:PM}{P:Pr}{G:Nat→Prop}
theorem al7 (F:Nat→Nat→Prop)(h:∀b k l,F k b→F l b→k=l):∃lab:Nat→Option Nat,∀b k,lab b=some k↔F k b:=by
 classical
 refine ⟨fun b=>if e:∃k,F k b then some e.choose else none,fun b k=> ?_⟩
 by_cases e:∃k,F k b
 ·simp only []
  rw [dif_pos e,Option.some.injEq];exact ⟨fun h1=>h1▸e.choose_spec,fun h1=>h b _ _ e.choose_spec h1⟩
 ·simp only []
  rw [dif_neg e];exact ⟨fun h1=>(by cases h1),fun h1=>absurd ⟨k,h1⟩ e⟩
theorem aL.strict {F:Nat→Prop}{l:Nat}{ep lag ak:Int}{D:DataW Unit}(h:aL w F l ep lag ak D):aL w (fun i=>F i∧i<w.heap.size) l ep lag ak D:=by
 obtain ⟨m,f1,f2,b,o,z⟩:=h;refine ⟨m,⟨f1,b.lt⟩,⟨f2,?_⟩,b,o,z⟩;obtain ⟨es,clock,hh,_⟩:=o;exact (Array.getElem?_eq_some_iff.1 hh).1
theorem eH.make (F:Nat→Nat→Prop)(hF:∀b k l,F k b→F l b→k=l)(hlt:∀k b,F k b→b<w.heap.size)(q0:F 0 M.q)(blk:Blk w M.q fU (prC M P).toArray)
  (caps:2≤M.cc∧M.cc≤maxLen∧2≤M.cf∧M.cf≤maxLen∧2≤M.cs∧M.cs≤maxLen∧2≤M.ch∧M.ch≤maxLen)
  (home:aM w (F 1) M.hp P.home) (lead:∃D,aL w (F 2) M.l P.e P.lag P.ak D∧zC D P.pg)
  (rc:F 3 M.rc∧∀i,i<2→w.cell? ⟨M.rc,i,none⟩=some (pp (M.cp i))) (rf:F 4 M.rf∧∀i,i<2→w.cell? ⟨M.rf,i,none⟩=some (pp (M.fp i)))
  (fo:∀i,i<2→aM w (F (10+i)) (M.cp i) (P.fo i).c)
  (fb:∀i,i<2→F (20+i) (M.fp i)∧Blk w (M.fp i) TFw #[pp (M.cp i),.int .i64 (P.fo i).seen,.int .i64 (P.fo i).agr])
  (rs:F 5 M.rs∧∀i,i<2→w.cell? ⟨M.rs,i,none⟩=some (.slice none 0 0)∧w.frozen? ⟨M.rs,i,none⟩=false)
  (rh:F 6 M.rh∧∀i,i<2→w.cell? ⟨M.rh,i,none⟩=some (.slice none 0 0)∧w.frozen? ⟨M.rh,i,none⟩=false)
  (hsh:∀i,P.sh i=[]) (hhd:∀i,P.hd i=[]):∃lab,eH w lab M P∧∀b k,lab b=some k→F k b:=by
 obtain ⟨lab,hl⟩:=al7 F hF;have hk:∀{k:Nat} {p:Nat} {c:Kp},aM w (F k) p c→aM w (aT lab k) p c:=fun h=>h.wide (fun b hb=>(hl b _).2 hb) (fun b hb=>hlt _ b ((hl b _).1 hb));obtain ⟨D,h1,h2⟩:=lead;exact ⟨lab,⟨fun b j hb=>hlt j b ((hl b j).1 hb),(hl _ _).2 q0,blk,caps,hk home,⟨D,h1.mono (fun b hb=>(hl b _).2 hb),h2⟩,⟨(hl _ _).2 rc.1,rc.2⟩,⟨(hl _ _).2 rf.1,rf.2⟩,fun i hi=>hk (fo i hi),fun i hi=>⟨(hl _ _).2 (fb i hi).1,(fb i hi).2⟩,⟨(hl _ _).2 rs.1,fun _=> .slice none 0 0,rs.2,fun i hi=>by
  rw [hsh i];exact ⟨[],rfl,aA.nil _ _ _ _,fun j m hj=>by simp at hj⟩⟩,⟨(hl _ _).2 rh.1,fun _=> .slice none 0 0,rh.2,fun i hi=>by
  rw [hhd i];exact aA.nil _ _ _ _⟩⟩,fun b k hb=>(hl b k).1 hb⟩
theorem wu:zC (.map []) (fun _=>none):=fun i hi=>rfl
theorem aA.agc {F:Nat→Prop}{e:TypeId}{n c g:Nat}{xs:List Value}(h:aA w F e 1 (.slice (some ⟨g,0,none⟩) n c) n xs)(hp:0<n){i:Nat}{u:Value}(hi:xs[i]? =some u):w.cell? ⟨g,i,none⟩=some u∧w.frozen? ⟨g,i,none⟩=false:=by
 obtain ⟨b,hb,hlt,hFb,hc⟩:=h.head hp;injection hb with hb;injection hb with hb;subst hb;obtain ⟨cur,hbl,_⟩:=h.ahq;exact ⟨(hc i (List.getElem?_eq_some_iff.1 hi).1).trans hi,hbl.frozen i⟩
end
section
set_option linter.unusedSimpArgs false
set_option linter.unusedSectionVars false
variable {w w' :World}{lab lab' :Nat→Option Nat}{M:PM}{P:Pr}{F G:Nat→Prop}
theorem j4 {e1 e2:TypeId}{s1 s2 n1 n2:Nat}{v1 v2:Value}{xs1 xs2:List Value}(h1:aA w F e1 s1 v1 n1 xs1)(h2:aA w G e2 s2 v2 n2 xs2)(hne:e1≠e2):∀g,v1.ownBlock=some g→¬v2.ownBlock=some g:=by
 intro g hg hg2
 rcases h2.1.2 with ⟨rfl,_⟩|⟨g',cap,cur,rfl,_,hh,_⟩
 ·cases hg2
 ·obtain rfl:g' =g:=by simpa [Value.ownBlock] using hg2
  exact h1.aW (show Blk w g' e2 cur from hh) hne g' hg rfl
theorem ah4 {u V w8 U w9:World}{F1 F2:Nat→Prop}{e1 e2:TypeId}{v1 v2 v1' v2' x1 x2:Value}{n1 n2:Nat}{xs1 xs2:List Value}(hne:e1≠e2)(r1:aA u F1 e1 1 v1 n1 xs1)(r2:aA u F2 e2 1 v2 n2 xs2)(f1:Fr No u V)(a1:aJ V 0 e1 1 v1 n1 xs1 [x1] 1 v1' w8)(f2:Fr No w8 U)(a2:aJ U 0 e2 1 v2 n2 xs2 [x2] 1 v2' w9):
  aA w9 (fun i=>F1 i∨u.heap.size≤i) e1 1 v1' (n1+1) (xs1++[x1])∧aA w9 (fun i=>F2 i∨u.heap.size≤i) e2 1 v2' (n2+1) (xs2++[x2])∧Fr (fun i=>v1.ownBlock=some i∨v2.ownBlock=some i) u w9:=by
 have q1:aA V (fun i=>v1.ownBlock=some i) e1 1 v1 n1 xs1:=⟨(r1.au f1).1,fun g hg=>hg⟩;obtain ⟨o1,g1⟩:=q1.appended a1;have q2:aA U (fun i=>v2.ownBlock=some i) e2 1 v2 n2 xs2:=⟨(((r2.au f1).fr' g1 fun g hg hg1=>j4 (r2.au f1) q1 (Ne.symm hne) g hg hg1).au f2).1,fun g hg=>hg⟩;obtain ⟨o2,g2⟩:=q2.appended a2;have s1:=f1.size;have s2:=g1.size;have s3:=f2.size;have p1:=o1.au f2;refine ⟨(p1.fr' g2 fun g hg hg2=>j4 p1 q2 hne g hg hg2).mono fun i hi=> ?_,o2.mono fun i hi=> ?_,(((f1.mono fun _ h=>h.elim).trans g1 fun i hi=> .inl (.inl hi)).trans f2 fun _ h=>h.elim).trans g2 fun i hi=> .inl (.inr hi)⟩
 ·rcases hi with hi|hi
  ·exact .inl (r1.2 i hi)
  ·exact .inr oy
 ·rcases hi with hi|hi
  ·exact .inl (r2.2 i hi)
  ·exact .inr oy
abbrev ak9 (hp l:Nat)(rv fv:Value)(rs rh:Nat):Array Value:= #[pp hp,pp l,rv,fv,.slice (some ⟨rs,0,none⟩) 2 2,.slice (some ⟨rh,0,none⟩) 2 2,.int .i64 0,.int .i64 0,.int .i64 0,.int .i64 0,.int .i64 0]
def ahw (u:World)(q hp l rs rh k:Nat)(rv fv:Value)(xs fs:List Value)(x f:Nat)(W:World):Prop:=
 ∃rv' fv',aA W (fun i=>rv.ownBlock=some i∨u.heap.size≤i) qL 1 rv' (k+1) (xs++[pp x])∧aA W (fun i=>fv.ownBlock=some i∨u.heap.size≤i) pG 1 fv' (k+1) (fs++[pp f])∧Blk W q fU (ak9 hp l rv' fv' rs rh)∧Fr (fun i=>i=q∨rv.ownBlock=some i∨fv.ownBlock=some i) u W
theorem ah6 {u w9:World}{q hp l rs rh k:Nat}{rv fv rv' fv' :Value}{xs fs:List Value}{x f:Nat}(hb:Blk u q fU (ak9 hp l rv fv rs rh))(r1:aA u (fun i=>rv.ownBlock=some i) qL 1 rv k xs)(r2:aA u (fun i=>fv.ownBlock=some i) pG 1 fv k fs)
  (o1:aA w9 (fun i=>rv.ownBlock=some i∨u.heap.size≤i) qL 1 rv' (k+1) (xs++[pp x])) (o2:aA w9 (fun i=>fv.ownBlock=some i∨u.heap.size≤i) pG 1 fv' (k+1) (fs++[pp f])) (g:Fr (fun i=>rv.ownBlock=some i∨fv.ownBlock=some i) u w9):
  ahw u q hp l rs rh k rv fv xs fs x f ((w9.setCell ⟨q,2,none⟩ rv').setCell ⟨q,3,none⟩ fv'):=by
 have hb9:Blk w9 q fU (ak9 hp l rv fv rs rh):=hb.fr g fun e=>e.elim (fun e=>r1.aW hb dcd q e rfl) (fun e=>r2.aW hb dcd q e rfl);have hs:Fr (fun i=>i=q) w9 ((w9.setCell ⟨q,2,none⟩ rv').setCell ⟨q,3,none⟩ fv'):=((Fr.refl (fun i=>i=q) w9).setCell (p:=⟨q,2,none⟩) (.inl rfl) _).setCell (p:=⟨q,3,none⟩) (.inl rfl) _;exact ⟨rv',fv',o1.fr' hs (o1.aW hb9 dcd),o2.fr' hs (o2.aW hb9 dcd),Blk.cv ((hb9.aC 2 _).aC 3 _) (by simp),(g.mono (G:=fun i=>i=q∨rv.ownBlock=some i∨fv.ownBlock=some i) fun i hi=> .inr hi).trans hs fun i hi=> .inl (.inl hi)⟩
def tq (v:World)(q hp l rs rh:Nat)(k:Nat)(W:World):Prop:=
 ∃(cp fp a b:Nat→Nat) (rv fv:Value),(∀j,j<k→v.heap.size≤a j∧b j≤fp j∧fp j<W.heap.size∧aM W (fun i=>a j≤i∧i<b j) (cp j) (cs0 ((j:Int)+1) 0)∧Blk W (fp j) TFw #[pp (cp j),.int .i64 0,.int .i64 0])∧(∀i j,i<j→j<k→fp i<a j)∧
 aA W (fun i=>v.heap.size≤i∧∀j,j<k→¬(a j≤i∧i<b j)∧i≠fp j) qL 1 rv k ((List.range k).map fun j=>pp (cp j))∧aA W (fun i=>v.heap.size≤i∧∀j,j<k→¬(a j≤i∧i<b j)∧i≠fp j) pG 1 fv k ((List.range k).map fun j=>pp (fp j))∧
 Blk W q fU (ak9 hp l rv fv rs rh)∧Fr (fun i=>i=q) v W
theorem rQ (k:Nat)(g:Nat→Nat)(x:Nat):(List.range (k+1)).map (fun j=>pp (fD g k x j))=(List.range k).map (fun j=>pp (g j))++[pp x]:=by
 rw [List.range_succ,List.map_append]
 congr 1
 ·apply List.map_congr_left
  intro j hj;rw [aF _ _ (by have:=List.mem_range.1 hj;omega)]
 ·simp [upd_same]
theorem tq.next {v W v2 u W' :World}{q hp l rs rh k x f:Nat}{cp fp a b:Nat→Nat}{rv fv:Value}(hq:q<v.heap.size)
  (h1:∀j,j<k→v.heap.size≤a j∧b j≤fp j∧fp j<W.heap.size∧aM W (fun i=>a j≤i∧i<b j) (cp j) (cs0 ((j:Int)+1) 0)∧Blk W (fp j) TFw #[pp (cp j),.int .i64 0,.int .i64 0]) (h2:∀i j,i<j→j<k→fp i<a j)
  (h3:aA W (fun i=>v.heap.size≤i∧∀j,j<k→¬(a j≤i∧i<b j)∧i≠fp j) qL 1 rv k ((List.range k).map fun j=>pp (cp j))) (h4:aA W (fun i=>v.heap.size≤i∧∀j,j<k→¬(a j≤i∧i<b j)∧i≠fp j) pG 1 fv k ((List.range k).map fun j=>pp (fp j)))
  (h6:Fr (fun i=>i=q) v W) (hc:aM v2 (fun i=>W.heap.size≤i∧i<v2.heap.size) x (cs0 ((k:Int)+1) 0)) (f2:Fr No W v2) (hb:Blk u f TFw #[pp x,.int .i64 0,.int .i64 0]) (hf:v2.heap.size≤f) (fu:Fr No v2 u)
  (hr:ahw u q hp l rs rh k rv fv ((List.range k).map fun j=>pp (cp j)) ((List.range k).map fun j=>pp (fp j)) x f W'):tq v q hp l rs rh (k+1) W' :=by
 obtain ⟨rv',fv',o1,o2,b5,g⟩:=hr;have s1:=h6.size;have s2:=f2.size;have s3:=fu.size;have s4:=g.size;have s5:=hb.lt;have g' :Fr (fun i=>i=q∨rv.ownBlock=some i∨fv.ownBlock=some i) W W' :=((f2.ah fu).mono fun _ h=>h.elim).trans g fun i hi=> .inl hi;have hk:=fun j (hj:j<k)=>h1 j hj;have hown1:∀i,rv.ownBlock=some i→i<W.heap.size:=fun i hi=>h3.lt i hi;have hown2:∀i,fv.ownBlock=some i→i<W.heap.size:=fun i hi=>h4.lt i hi;refine ⟨fD cp k x,fD fp k f,fD a k W.heap.size,fD b k v2.heap.size,rv',fv',fun j hj=> ?_,fun i j hij hj=> ?_,?_,?_,b5,h6.trans g' fun i hi=> ?_⟩
 ·by_cases e:j=k
  ·subst e
   simp only [upd_same];refine ⟨s1,hf,by omega,(hc.au fu).fr g (fun i hi hg=> ?_),hb.fr g (fun hg=> ?_)⟩
   ·rcases hg with hg|hg|hg
    ·omega
    ·have:=hown1 i hg;omega
    ·have:=hown2 i hg;omega
   ·rcases hg with hg|hg|hg
    ·omega
    ·have:=hown1 f hg;omega
    ·have:=hown2 f hg;omega
  ·obtain ⟨q1,q2,q3,q4,q5⟩:=h1 j oy
   have qf:=q4.fp;rw [aF _ _ e,aF _ _ e,aF _ _ e,aF _ _ e];refine ⟨q1,q2,by have:=g'.size;omega,q4.fr g' (fun i hi hg=> ?_),q5.fr g' (fun hg=> ?_)⟩
   ·rcases hg with hg|hg|hg
    ·omega
    ·exact ((h3.2 i hg).2 j oy).1 hi
    ·exact ((h4.2 i hg).2 j oy).1 hi
   ·rcases hg with hg|hg|hg
    ·omega
    ·exact ((h3.2 _ hg).2 j oy).2 rfl
    ·exact ((h4.2 _ hg).2 j oy).2 rfl
 ·rw [aF _ _ (show i≠k by omega)]
  by_cases e:j=k
  ·subst e
   rw [upd_same];exact (h1 i oy).2.2.1
  ·rw [aF _ _ e]
   exact h2 i j hij oy
 ·rw [rQ]
  refine o1.mono fun i hi=> ?_;have hd:∀j,j<k→¬(a j≤i∧i<b j)∧i≠fp j:=fun j hj=>by
   obtain ⟨q1,q2,q3,q4,_⟩:=h1 j hj;have qf:=q4.fp
   rcases hi with hi|hi
   ·exact (h3.2 i hi).2 j hj
   ·exact ⟨by omega,by omega⟩
  refine ⟨hi.elim (fun hi=>(h3.2 i hi).1) (fun hi=>by omega),fun j hj=> ?_⟩
  by_cases e:j=k
  ·subst e
   simp only [upd_same]
   rcases hi with hi|hi
   ·have:=hown1 i hi;exact ⟨by omega,by omega⟩
   ·exact ⟨by omega,by omega⟩
  ·rw [aF _ _ e,aF _ _ e,aF _ _ e]
   exact hd j oy
 ·rw [rQ]
  refine o2.mono fun i hi=> ?_;have hd:∀j,j<k→¬(a j≤i∧i<b j)∧i≠fp j:=fun j hj=>by
   obtain ⟨q1,q2,q3,q4,_⟩:=h1 j hj;have qf:=q4.fp
   rcases hi with hi|hi
   ·exact (h4.2 i hi).2 j hj
   ·exact ⟨by omega,by omega⟩
  refine ⟨hi.elim (fun hi=>(h4.2 i hi).1) (fun hi=>by omega),fun j hj=> ?_⟩
  by_cases e:j=k
  ·subst e
   simp only [upd_same]
   rcases hi with hi|hi
   ·have:=hown2 i hi;exact ⟨by omega,by omega⟩
   ·exact ⟨by omega,by omega⟩
  ·rw [aF _ _ e,aF _ _ e,aF _ _ e]
   exact hd j oy
 ·rcases hi with hi|hi|hi
  ·exact .inl hi
  ·exact .inr (h3.2 i hi).1
  ·exact .inr (h4.2 i hi).1
theorem xE {V w8:World}{e:TypeId}{v v' :Value}{k n:Nat}{xs news:List Value}(h:aA V (fun i=>v.ownBlock=some i) e 1 v k xs)(hn:∀i,v.ownBlock=some i→i<n)(ha:aJ V 0 e 1 v k xs news 1 v' w8):
  (∃A c,v' = .slice A (k+1) c)∧V.heap.size≤w8.heap.size∧(∀(g:Nat) (t:TypeId) (cs:Array Value),(n≤g∨e≠t)→Blk V g t cs→Blk w8 g t cs)∧∀(G:Nat→Prop) (e2:TypeId) (s2:Nat) (v2:Value) (n2:Nat) (ys:List Value),e2≠e→aA V G e2 s2 v2 n2 ys→aA w8 G e2 s2 v2 n2 ys:=by
 obtain ⟨o,g⟩:=h.appended ha;obtain ⟨A,c,e1,_⟩:=o.form;refine ⟨⟨A,c,e1⟩,g.size,fun b t cs hb k=>k.fr g fun hg=> ?_,fun G e2 s2 v2 n2 ys hne k=>k.fr' g fun b hb hg=>j4 k h hne b hb hg⟩
 rcases hb with hb|hb
 ·have:=hn b hg;omega
 ·exact h.aW k hb b hg rfl
theorem ad1 {v wr W:World}{n0 n1 n2 n3:Nat}{H:Nat→Prop}{q hp l rs rh:Nat}{lag:Int}{D:DataW Unit}(hH:∀i,H i→(n0≤i∧i<n1)∨(n2≤i∧i<n3))(h01:n0≤n1)(h12:n1≤n2)(h23:n2≤n3)(h3v:n3≤v.heap.size)(hrs:n3≤rs)(hrh:n3≤rh)(hne:rs≠rh)(hq:n3≤q)
  (hqv:q<v.heap.size) (hrv:rs<v.heap.size) (hhv:rh<v.heap.size) (home:aM W H hp {cs0 0 0 with ws:=[⟨0,1,0,0,1000⟩]}) (lead:aL W (fun i=>n1≤i∧i<n2) l 1 lag 0 D) (hr:zC D (startP lag).pg) (brs:Blk W rs aj3 #[.slice none 0 0,.slice none 0 0]) (brh:Blk W rh aj4 #[.slice none 0 0,.slice none 0 0])
  (t:tq v q hp l rs rh 2 wr) (fW:Fr (fun i=>n1≤i∧i<n2) wr W):∃M lab,M.q=q∧eH W lab M (startP lag)∧∀b j,lab b=some j→n0≤b:=by
 obtain ⟨cp,fp,a,b,rv,fv,t1,t2,t3,t4,t5,t6⟩:=t;obtain ⟨A1,c1,rfl,-⟩:=t3.form;obtain ⟨rc,rfl,_⟩:=t3.head dcd;obtain ⟨A2,c2,rfl,-⟩:=t4.form;obtain ⟨rf,rfl,_⟩:=t4.head dcd;have p3:=t3.2 rc rfl;have p4:=t4.2 rf rfl;have hcf:rc≠rf:=fun e=>j4 t3 t4 dcd rc rfl (by rw [e];rfl);obtain ⟨d1,d2,d3,d4,d5⟩:=t1 0 dcd;obtain ⟨e1,e2,e3,e4,e5⟩:=t1 1 dcd;have hfa:=t2 0 1 dcd dcd;have df:=d4.fp;have ef:=e4.fp;have hsz:=fW.size;have q3:=t3.frF fW fun i hi hg=>by have:=hi.1;omega
 have q4:=t4.frF fW fun i hi hg=>by have:=hi.1;omega
 have l3:=q3.lt rc rfl;have l4:=q4.lt rf rfl;have hqs:q≠rs:=fun e=>by
  have b1:=t5.fr fW (fun hg=>by omega);rw [e] at b1;unfold Blk at b1 brs;rw [b1] at brs;injection brs with brs;injection brs with _ brs;exact absurd brs dcd
 have hqh:q≠rh:=fun e=>by
  have b1:=t5.fr fW (fun hg=>by omega);rw [e] at b1;unfold Blk at b1 brh;rw [b1] at brh;injection brh with brh;injection brh with _ brh;exact absurd brh dcd
 have w0:=p3.2 0 dcd;have w1:=p3.2 1 dcd;have w2:=p4.2 0 dcd;have w3:=p4.2 1 dcd;have s3:=p3.1;have s4:=p4.1;have wv:=t6.size;have k0:=t1 0 dcd;obtain ⟨lab,hP,hl⟩:=eH.make (w:=W) (M:=⟨q,hp,l,cp,fp,rc,c1,rf,c2,rs,2,rh,2⟩) (P:=startP lag)
  (fun k i=>(k=0∧i=q)∨(k=1∧H i)∨(k=2∧n1≤i∧i<n2)∨(k=3∧i=rc)∨(k=4∧i=rf)∨(k=5∧i=rs)∨(k=6∧i=rh)∨(k=10∧a 0≤i∧i<b 0)∨(k=11∧a 1≤i∧i<b 1)∨(k=20∧i=fp 0)∨(k=21∧i=fp 1))
  (fun i k l h h' =>by
   rcases h with ⟨rfl,h⟩|⟨rfl,h⟩|⟨rfl,h⟩|⟨rfl,h⟩|⟨rfl,h⟩|⟨rfl,h⟩|⟨rfl,h⟩|⟨rfl,h⟩|⟨rfl,h⟩|⟨rfl,h⟩|⟨rfl,h⟩
   all_goals
    try replace h:=hH i h
    rcases h' with ⟨rfl,h'⟩|⟨rfl,h'⟩|⟨rfl,h'⟩|⟨rfl,h'⟩|⟨rfl,h'⟩|⟨rfl,h'⟩|⟨rfl,h'⟩|⟨rfl,h'⟩|⟨rfl,h'⟩|⟨rfl,h'⟩|⟨rfl,h'⟩
    all_goals first
     |rfl
     |(exfalso;omega)
     |(exfalso;replace h' :=hH i h';omega))
  (fun k i h=>by
   rcases h with ⟨rfl,h⟩|⟨rfl,h⟩|⟨rfl,h⟩|⟨rfl,h⟩|⟨rfl,h⟩|⟨rfl,h⟩|⟨rfl,h⟩|⟨rfl,h⟩|⟨rfl,h⟩|⟨rfl,h⟩|⟨rfl,h⟩
   all_goals first
    |omega
    |(replace h:=hH i h;omega))
  (.inl ⟨rfl,rfl⟩) (t5.fr fW (fun hg=>by omega))
  ⟨q3.cap.1,q3.cap.2,q4.cap.1,q4.cap.2,Nat.le_refl _,(show 2≤maxLen from by unfold maxLen;omega),Nat.le_refl _,(show 2≤maxLen from by unfold maxLen;omega)⟩
  (home.wide (fun i hi=> .inr (.inl ⟨rfl,hi⟩)) (fun i h=>by
   rcases h with ⟨e,h⟩|⟨e,h⟩|⟨e,h⟩|⟨e,h⟩|⟨e,h⟩|⟨e,h⟩|⟨e,h⟩|⟨e,h⟩|⟨e,h⟩|⟨e,h⟩|⟨e,h⟩<;>first|(exfalso;omega)|exact home.lt i h))
  ⟨D,lead.mono (fun i hi=> .inr (.inr (.inl ⟨rfl,hi⟩))),hr⟩
  ⟨.inr (.inr (.inr (.inl ⟨rfl,rfl⟩))),fun i hi=>by
   obtain rfl|rfl:i=0∨i=1:=by omega
   ·exact (q3.agc dcd rfl).1
   ·exact (q3.agc dcd rfl).1⟩
  ⟨.inr (.inr (.inr (.inr (.inl ⟨rfl,rfl⟩)))),fun i hi=>by
   obtain rfl|rfl:i=0∨i=1:=by omega
   ·exact (q4.agc dcd rfl).1
   ·exact (q4.agc dcd rfl).1⟩
  (fun i hi=>by
   obtain rfl|rfl:i=0∨i=1:=by omega
   ·refine (d4.fr fW fun i hi hg=>by omega).wide (fun i hi=> .inr (.inr (.inr (.inr (.inr (.inr (.inr (.inl ⟨rfl,hi⟩)))))))) fun i h=> ?_
    rcases h with ⟨e,h⟩|⟨e,h⟩|⟨e,h⟩|⟨e,h⟩|⟨e,h⟩|⟨e,h⟩|⟨e,h⟩|⟨e,h⟩|⟨e,h⟩|⟨e,h⟩|⟨e,h⟩<;>first|(exfalso;omega)|omega
   ·refine (e4.fr fW fun i hi hg=>by omega).wide (fun i hi=> .inr (.inr (.inr (.inr (.inr (.inr (.inr (.inr (.inl ⟨rfl,hi⟩))))))))) fun i h=> ?_
    rcases h with ⟨e,h⟩|⟨e,h⟩|⟨e,h⟩|⟨e,h⟩|⟨e,h⟩|⟨e,h⟩|⟨e,h⟩|⟨e,h⟩|⟨e,h⟩|⟨e,h⟩|⟨e,h⟩<;>first|(exfalso;omega)|omega)
  (fun i hi=>by
   obtain rfl|rfl:i=0∨i=1:=by omega
   ·exact ⟨.inr (.inr (.inr (.inr (.inr (.inr (.inr (.inr (.inr (.inl ⟨rfl,rfl⟩))))))))),d5.fr fW fun hg=>by omega⟩
   ·exact ⟨.inr (.inr (.inr (.inr (.inr (.inr (.inr (.inr (.inr (.inr ⟨rfl,rfl⟩))))))))),e5.fr fW fun hg=>by omega⟩)
  ⟨.inr (.inr (.inr (.inr (.inr (.inl ⟨rfl,rfl⟩))))),fun i hi=>by
   obtain rfl|rfl:i=0∨i=1:=by omega
   ·exact ⟨brs.cell 0,brs.frozen 0⟩
   ·exact ⟨brs.cell 1,brs.frozen 1⟩⟩
  ⟨.inr (.inr (.inr (.inr (.inr (.inr (.inl ⟨rfl,rfl⟩)))))),fun i hi=>by
   obtain rfl|rfl:i=0∨i=1:=by omega
   ·exact ⟨brh.cell 0,brh.frozen 0⟩
   ·exact ⟨brh.cell 1,brh.frozen 1⟩⟩
  (fun _=>rfl) (fun _=>rfl)
 refine ⟨_,lab,rfl,hP,fun i j hi=> ?_⟩
 rcases hl i j hi with ⟨e,h⟩|⟨e,h⟩|⟨e,h⟩|⟨e,h⟩|⟨e,h⟩|⟨e,h⟩|⟨e,h⟩|⟨e,h⟩|⟨e,h⟩|⟨e,h⟩|⟨e,h⟩
 all_goals first
  |omega
  |(replace h:=hH i h;omega)
end
section
set_option linter.unusedSimpArgs false
set_option linter.unusedSectionVars false
abbrev pF:TypeId:=40
variable {w w' :World}{lab lab' :Nat→Option Nat}{M:PM}{P:Pr}{G:Nat→Prop}
theorem bP.chain {w1:World}{cZ:Nat→Option Nat}{R:Pr}(e1:∀b,b<w.heap.size→cZ b=lab b)(f1:Fr (fun b=>lab b≠none) w w1)(h:bP w1 cZ M R w'):bP w lab M R w' :=by
 obtain ⟨l2,a2,e2,f2⟩:=h;refine ⟨l2,a2,fun b hb=>(e2 b (nll hb f1.size)).trans (e1 b hb),f1.trans f2 fun b hb=> ?_⟩
 rcases Nat.lt_or_ge b w.heap.size with h|h
 ·rw [e1 b h] at hb;exact .inl hb
 ·exact .inr h
end
section
set_option linter.unusedSimpArgs false
set_option linter.unusedSectionVars false
variable {w w' :World}{lab lab' :Nat→Option Nat}{M:PM}{P:Pr}{G:Nat→Prop}
set_option maxHeartbeats 32000000 in
theorem ais (h:eH w lab M P){n:Nat}(ho:iI P n)(hn:n≤900)(wh a b:Int)(hq8:(wh % 8=0∨wh % 8=1)∨wh % 8=6∨wh % 8=7):
  Calls Tryz.prog 20 #[.pointer (some ⟨M.q,0,none⟩),.agg #[.int .i64 wh,.int .i64 a,.int .i64 b]] w fun e w' =>∃ak' :Int,(aQ P wh a b).ak≤ak'∧ak'≤max (aQ P wh a b).ak (aQ P wh a b).home.h.length∧e= .returned (.bool true)∧bP w lab M {aQ P wh a b with ak:=ak',dS:=ak'} w' :=by
 obtain ⟨HQ8,H,HO⟩:=bC hq8 h ho;obtain ⟨c0,c1,c2,c3,c4,c5,c6,c7,c8,c9,c10⟩:=aP h.blk;have hlt:=h.blk.lt;clear h ho hq8
 go_in
 go_upto_region 1 with fail
 obtain ⟨g,hg⟩:∃g,g=w.heap.size:=⟨_,rfl⟩;have f1:=aj w (.cells #[.int .i64 wh,.int .i64 a,.int .i64 b] pF);have b1:Blk (w.alloc (.cells #[.int .i64 wh,.int .i64 a,.int .i64 b] pF)) g pF #[.int .i64 wh,.int .i64 a,.int .i64 b]:=by rw [hg];exact Blk.new _ _ _
 generalize w.alloc (.cells #[.int .i64 wh,.int .i64 a,.int .i64 b] pF)=w1 at f1 b1 ⊢;rw [←hg];have hgl:g<w1.heap.size:=b1.lt;have hgw:w.heap.size≤g:=by omega
 have hstep:∀V,Fr (fun b=>lab b≠none) w1 V→V.cell? ⟨g,0,none⟩=some (.int .i64 wh)∧V.cell? ⟨g,1,none⟩=some (.int .i64 a)∧V.cell? ⟨g,2,none⟩=some (.int .i64 b):=fun V hV=>by
  have hb:=b1.fr hV (fun e=>by
   cases hq:lab g with
   |none=>exact e hq
   |some j=>have:=H.out.lt g j hq;omega)
  exact ⟨hb.cell 0,hb.cell 1,hb.cell 2⟩
 have hq:=fun V (hV:Fr No w1 V)=>(H.out.still (f1.ah hV)).blk;obtain ⟨F1,HST,HQ⟩:=bC f1 hstep hq;clear hg f1 b1 c0 c1 c2 c3 c4 c5 c6 c7 c8 c9 c10 hstep hq;obtain ⟨c0,c1,c2,c3,c4,c5,c6,c7,c8,c9,c10⟩:=aP (HQ.out _ (Fr.refl _ _));obtain ⟨x0,x1,x2⟩:=HST.out _ (Fr.refl _ _)
 go_region_held3 (fun V=>V.cell? ⟨g,1,none⟩=some (.int .i64 a)∧V.cell? ⟨M.q,2,none⟩=some (.slice (some ⟨M.rc,0,none⟩) 2 M.cc)) ((refine ⟨(HST.out _ ?_).2.1,(HQ.out _ ?_).cell 2⟩<;>(with_reducible ((repeat (first|assumption|exact Fr.refl _ _|refine Fr.alloc ?_ _|refine Fr.drew ?_|refine Fr.drewN ?_ _|refine Fr.setCell ?_ (.inr (Nat.le_refl _)) _));done)))) (first|(go_at_call 9;refine (dR _ _ _ dcd dcd).mono ?_;rintro e w' ⟨rfl,rfl⟩))
 clear c0 c1 c2 c3 c4 c5 c6 c7 c8 c9 c10 x0 x1 x2;have F2:=O ((Fr.refl No w1).drew);generalize w1.drew=w2 at F2 ⊢;obtain ⟨x0,x1,x2⟩:=HST.out _ (F2.out.mono fun _ h=>h.elim)
 go_upto_block 0 with (go_at_call 9;refine (dR _ _ _ dcd dcd).mono ?_;rintro e w' ⟨rfl,rfl⟩)
 clear x0 x1 x2
 go_cut [6,7,8,9] from 19 to 164 (fun _ _ _ _ wx=>bP w2 lab M (aQ P wh a b) wx)
 case first=>
  obtain ⟨r,hr⟩:∃r,r=wh % 8:=⟨_,rfl⟩;have hr0:0≤r∧r<8:=by omega
  have h01:(r=0∨r=1)∨r=6∨r=7:=by rw [hr];exact HQ8.out
  have hSW:r≤1→aQ P wh a b=fC P a b:=fun h=>by unfold aQ;rw [if_pos oy]
  have hS7:r=7→aQ P wh a b=P:=fun h=>by unfold aQ;rw [if_neg oy,if_neg oy,if_neg oy,if_neg oy]
  have hwr:∀V,Fr No w2 V→Calls Tryz.prog 57 #[.pointer (some ⟨M.q,0,none⟩),.int .i64 a,.int .i64 b] V fun e w' =>e= .returned (.tuple #[])∧bP w2 lab M (fC P a b) w' :=fun V hV=>
   (iB (H.out.still (F1.out.ah (F2.out.ah hV))) HO.out oy a b).mono fun e w' ⟨h1,h2⟩=>⟨h1,bP.base hV h2⟩
  rw [←hr];obtain ⟨HR6,HSW,HS7,HWR⟩:=fV hr hSW hS7 hwr;clear hr hSW hS7 hwr;obtain ⟨x0,x1,x2⟩:=HST.out _ (F2.out.mono fun _ h=>h.elim)
  rcases h01 with h01|rfl|rfl
  ·as_aux_lemma=>
    rcases h01 with rfl|rfl
    all_goals go_wp2_with fail
    all_goals refine (HWR.out _ (Fr.refl _ _)).mono ?_
    all_goals rintro e v3 ⟨rfl,Q3⟩
    all_goals go_wp2_with fail
    all_goals go_meet
    all_goals rw [HSW.out dcd]
    all_goals exact Q3
  ·as_aux_lemma=>
    obtain ⟨i,hi⟩:∃i:Nat,a % 2=(i:Int):=⟨(a % 2).toNat,by omega⟩;have hi2:i<2:=by omega
    have hti:(a % 2).toNat=i:=by omega
    have A0:=H.out.still (F1.out.ah F2.out);obtain ⟨e6,v,hv1,hv2⟩:=A0.rh;have hown:=hv2 i hi2;obtain ⟨Ah,ch,hv,hAn⟩:=hown.form;have hc1:=(hv1 i hi2).1;rw [hv] at hc1 hown;have c5:=A0.blk.cell 5;simp only [prC,List.getElem?_toArray,List.getElem?_cons_zero,List.getElem?_cons_succ] at c5;have hlen:=(HO.out.hd i hi2).1;have hdl:=ajs (P.hd i);obtain ⟨L,hL⟩:∃L,L=(P.hd i).length:=⟨_,rfl⟩;rw [←hL] at hc1 hown hlen hdl;have hSt:aQ P wh a b=if L=0 then P else match P.pg i with|none=>P|some p=>{P with pg:=fD P.pg i (some (gZ p (pick (P.hd i) b hd0)))}:=by
     have hr6:=HR6.out;unfold aQ;rw [if_neg oy,if_neg oy,if_neg oy,if_pos oy];simp only [hti,←hL]
     try (cases P.pg i<;>rfl)
    rw [hi]
    by_cases hz:L=0
    ·rw [if_pos hz] at hSt
     obtain ⟨HSt,A0,HI⟩:=bC hSt A0 (And.intro hi hti);have hi0:(0:Int)≤(i:Int):=by omega
     have hi1:(i:Int)<2:=by omega
     clear hSt hown hdl hL hv2 hv1 hAn hi hti;subst hz
     go_wp2_with fail
     rw [←HI.out.1]
     go_meet
     rw [HSt.out];exact A0.out.self (Fr.refl _ _)
    rw [if_neg hz] at hSt;have hL0:0<L:=by omega
    obtain ⟨k,hk⟩:∃k:Nat,b % (L:Int)=(k:Int):=⟨(b % (L:Int)).toNat,by have:=Int.emod_nonneg b (b:=(L:Int)) oy;omega⟩;have hkL:k<L:=by have:=Int.emod_lt_of_pos b (b:=(L:Int)) oy;omega
    obtain ⟨x,hx⟩:∃x,(P.hd i)[k]? =some x:=⟨_,List.getElem?_eq_getElem oy⟩;have hpick:pick (P.hd i) b hd0=x:=by unfold pick;rw [←hL,hk];simp [List.getD_eq_getElem?_getD,hx]
    obtain ⟨p,hp⟩:∃p,P.pg i=some p:=by
     cases hp:P.pg i with
     |none=>have:=HO.out.pg i hi2;rw [hp] at this;have:=this.2;rw [this] at hL;exact absurd hL hz
     |some p=>exact ⟨p,rfl⟩
    rw [hp,hpick] at hSt;simp only at hSt;obtain ⟨bh,hAe,hbl,hbF,hbc⟩:=hown.head hL0;subst hAe;have amv:=fun V (hV:Fr No w2 V)=>(aau (A0.still hV) HO.out hi2 hp (List.mem_of_getElem? hx)).mono fun e w' ⟨h1,h2,h3⟩=>(⟨h1,(hV.mono fun _ h=>h.elim:Fr (aT lab 2) w2 V).trans h2 fun b hb=> .inl hb,bP.base hV h3⟩:e=Ending.returned (.bool true)∧Fr (aT lab 2) w2 w'∧bP w2 lab M {P with pg:=fD P.pg i (some (gZ p x))} w');have hmod:∀V,Calls Tryz.prog 9 #[.int .i64 b,.int .i64 (L:Int)] V fun e w' =>e= .returned (.int .i64 (k:Int))∧V=w' :=fun V=>by rw [←hk];exact dR _ _ _ oy oy
    have hall:∀V,Fr (aT lab 2) w2 V→V.cell? ⟨M.q,1,none⟩=some (pp M.l)∧V.cell? ⟨M.q,5,none⟩=some (.slice (some ⟨M.rh,0,none⟩) 2 M.ch)∧V.cell? ⟨M.rh,i,none⟩=some (.slice (some ⟨bh,0,none⟩) L ch)∧V.cell? ⟨g,2,none⟩=some (.int .i64 b)∧V.cell? ⟨bh,k*3,none⟩=some (.int .i64 x.ep)∧V.cell? ⟨bh,k*3+1,none⟩=some (.int .i64 x.ap)∧V.cell? ⟨bh,k*3+2,none⟩=some (.bool x.ok):=fun V hV=>by
     have hb:=A0.blk.fr hV (neK dcd M.q A0.q0);have n1:¬aT lab 2 M.rh:=neK dcd _ e6;have n2:¬aT lab 2 bh:=neK oy _ hbF;have hg:=(HST.out V ((F2.out.mono fun _ h=>h.elim:Fr (fun b=>lab b≠none) w1 w2).trans (hV.mono fun b hb=>by have hb:lab b=some 2:=hb;rw [hb];exact fun e=>by cases e) fun b hb=> .inl hb)).2.2;have g0:=uP (P.hd i) k 0 x hx dcd;have g1:=uP (P.hd i) k 1 x hx dcd;have g2:=uP (P.hd i) k 2 x hx dcd;exact ⟨hb.cell 1,hb.cell 5,(hV.cell (p:=⟨M.rh,i,none⟩) (A0.lt _ _ e6) n1).trans hc1,hg,(hV.cell (p:=⟨bh,k*3,none⟩) hbl n2).trans ((hbc _ oy).trans g0),(hV.cell (p:=⟨bh,k*3+1,none⟩) hbl n2).trans ((hbc _ oy).trans g1),(hV.cell (p:=⟨bh,k*3+2,none⟩) hbl n2).trans ((hbc _ oy).trans g2)⟩
    have d6:decide (0<L)=true:=decide_eq_true hL0;obtain ⟨x_e,x_a,x_o⟩:=x;obtain ⟨HHR,HMO,HAL,HSt,HI⟩:=jq amv hmod hall hSt (And.intro hi hti);have hm3:M.ch≤maxLen:=A0.caps.2.2.2.2.2.2.2;clear amv hmod hall hSt hpick hx hk hbc hbF hown hdl hL hv1 hv2 hAn hz hi hti hp;have hi0:(0:Int)≤(i:Int):=by omega
    have hi1:(i:Int)<2:=by omega
    have hk0:(0:Int)≤(k:Int):=by omega
    have hk1:(k:Int)<(L:Int):=by omega
    have hwr:IntKind.i64.wrap ((i:Int)+1)=(i:Int)+1:=IntWalk.i64_in _ oy
    go_upto_region 19 with fail
    clear c5 hc1;obtain ⟨c1,c5,c6,c7,c8,c9,c10⟩:=HAL.out _ (Fr.refl _ _)
    go_region_held3 (fun V=>V.cell? ⟨M.q,1,none⟩=some (pp M.l)∧V.cell? ⟨M.q,5,none⟩=some (.slice (some ⟨M.rh,0,none⟩) 2 M.ch)∧V.cell? ⟨M.rh,i,none⟩=some (.slice (some ⟨bh,0,none⟩) L ch)∧V.cell? ⟨g,2,none⟩=some (.int .i64 b)∧V.cell? ⟨bh,k*3,none⟩=some (.int .i64 x_e)∧V.cell? ⟨bh,k*3+1,none⟩=some (.int .i64 x_a)∧V.cell? ⟨bh,k*3+2,none⟩=some (.bool x_o)) ((refine HAL.out _ ?_;(with_reducible ((repeat (first|assumption|exact Fr.refl _ _|refine Fr.alloc ?_ _|refine Fr.drew ?_|refine Fr.drewN ?_ _|refine Fr.setCell ?_ (.inr (Nat.le_refl _)) _));done)))) (first
     |(go_at_call 9;refine (HMO.out _).mono ?_;rintro e w' ⟨rfl,rfl⟩)
     |(go_at_call 27;refine (HHR.out _ (by with_reducible ((repeat (first|assumption|exact Fr.refl _ _|refine Fr.alloc ?_ _|refine Fr.drew ?_|refine Fr.drewN ?_ _));done))).mono ?_;rintro e v3 ⟨rfl,Q3,Q4⟩))
    go_wp2_with fail
    rw [←HI.out.1]
    go_meet
    rw [HSt.out];exact Q4
  ·as_aux_lemma=>
    go_wp2_with fail
    go_meet
    rw [HS7.out (by trivial)];exact (H.out.still (F1.out.ah F2.out)).self (Fr.refl _ _)
 case rest=>
  as_aux_lemma=>
  have hQo:iI (aQ P wh a b) (n+1):=step_ok HO.out oy wh a b;obtain ⟨Q,hQ⟩:∃Q,Q=aQ P wh a b:=⟨_,rfl⟩;rw [←hQ] at hQo hcut;have HQE:=O hQ;clear hQ;have agu:=O hcut;obtain ⟨dW,A2,e2,g2⟩:=hcut;have hack:∀V,Fr No wc V→Calls Tryz.prog 58 #[.pointer (some ⟨M.l,0,none⟩),.int .i64 (Q.home.h.length:Int)] V fun e w' =>∃ak',e= .returned (.int .i64 ak')∧Q.ak≤ak'∧ak'≤max Q.ak Q.home.h.length∧Fr (aT dW 2) wc w'∧bP wc dW M {Q with ak:=ak',pg:=Q.pg} w' :=by
   intro V hV;obtain ⟨D,hL,hR⟩:=(A2.still hV).lead;refine (nJ hL Q.home.h.length (by have:=hQo.hl;omega) hQo.lag).mono ?_;rintro e w' ⟨ak',rfl,h1,h2,h3,h4⟩;exact ⟨ak',rfl,h1,h2,(hV.mono fun _ h=>h.elim:Fr (aT dW 2) wc V).trans h4 fun b hb=> .inl hb,bP.base hV ((A2.still hV).jJ h3 hR h4)⟩
  have hlen:=fun V (hV:Fr No wc V)=>bQ (A2.still hV).home;have hcl:=fun V (hV:Fr (aT dW 2) wc V)=>aP (A2.blk.fr hV (neK dcd M.q A2.q0));have hfz:=fun V (hV:Fr (aT dW 2) wc V)=>(A2.blk.fr hV (neK dcd M.q A2.q0)).frozen 10;have hcs:∀(V:World) (u:Value),Fr (aT dW 2) wc V→(V.setCell ⟨M.q,10,none⟩ u).cell? ⟨M.q,0,none⟩=some (pp M.hp)∧(V.setCell ⟨M.q,10,none⟩ u).cell? ⟨M.q,1,none⟩=some (pp M.l):=fun V u hV=>by
   have hb:=(A2.blk.fr hV (neK dcd M.q A2.q0)).aC 10 u;exact ⟨hb.cell 0,hb.cell 1⟩
  have HCS:=O hcs;clear hcs;obtain ⟨c0,c1,c2,c3,c4,c5,c6,c7,c8,c9,c10⟩:=aP A2.blk;obtain ⟨AA,G2,QO,HACK,HLEN,HCL,HFZ⟩:=jo A2 (And.intro e2 g2) hQo hack hlen hcl hfz;clear A2 e2 g2 hQo hack hlen hcl hfz agu
  go_upto_region 21 with fail
  clear c0 c1 c2 c3 c4 c5 c6 c7 c8 c9 c10;obtain ⟨c0,c1,c2,c3,c4,c5,c6,c7,c8,c9,c10⟩:=HCL.out _ (Fr.refl _ _)
  go_region_held3 (fun V=>V.cell? ⟨M.q,0,none⟩=some (pp M.hp)∧V.cell? ⟨M.q,1,none⟩=some (pp M.l)) (first|(refine ⟨(HCL.out _ ?_).1,(HCL.out _ ?_).2.1⟩<;>(with_reducible ((repeat (first|assumption|exact Fr.refl _ _|refine Fr.alloc ?_ _|refine Fr.drew ?_|refine Fr.drewN ?_ _|refine Fr.setCell ?_ (.inr (Nat.le_refl _)) _));done)))|(refine HCS.out _ _ ?_;(with_reducible ((repeat (first|assumption|exact Fr.refl _ _|refine Fr.alloc ?_ _|refine Fr.drew ?_|refine Fr.drewN ?_ _|refine Fr.setCell ?_ (.inr (Nat.le_refl _)) _));done)))) (first
   |(go_at_call 16;refine (HLEN.out _ (by with_reducible ((repeat (first|assumption|exact Fr.refl _ _|refine Fr.alloc ?_ _|refine Fr.drew ?_|refine Fr.drewN ?_ _));done))).mono ?_;rintro e w' ⟨rfl,rfl⟩)
   |(go_at_call 58;refine (HACK.out _ (by with_reducible ((repeat (first|assumption|exact Fr.refl _ _|refine Fr.alloc ?_ _|refine Fr.drew ?_|refine Fr.drewN ?_ _));done))).mono ?_;rintro e v4 ⟨ak',rfl,L1,L2,Q4,Q5⟩;have z10:=HFZ.out _ Q4;have z11:=(HCL.out _ Q4).2.2.2.2.2.2.2.2.2.2;have K1:=O L1;have K2:=O L2;have K5:=O Q5;clear L1 L2 Q5))
  have hend:bP wc dW M {Q with ak:=ak',dS:=ak'} (v4.setCell ⟨M.q,10,none⟩ (.int .i64 ak')):=K5.out.then AA.out.lt fun akl A3=>A3.oD (nu:=Q.nu) (ac:=ak') (Blk.cv (A3.blk.aC 10 _) (by simp [prC])) ((Fr.refl (fun b=>b=M.q) v4).setCell (p:=⟨M.q,10,none⟩) (.inl rfl) _);clear c0 c1 c2 c3 c4 c5 c6 c7 c8 c9 c10 z10 z11 Q4 K5;generalize v4.setCell ⟨M.q,10,none⟩ (.int .i64 ak')=v5 at*;have HE:=O hend;obtain ⟨jP,A4,e4,g4⟩:=hend;have d1:decide (Q.dS≤ak')=true:=decide_eq_true (by have:=QO.out.ack;have:=K1.out;omega);have d2:decide (ak'≤(Q.home.h.length:Int))=true:=decide_eq_true (by have:=QO.out.ak1;have:=K2.out;omega);have hlen:=fun V (hV:Fr No v5 V)=>bQ (A4.still hV).home;have hcl:=fun V (hV:Fr No v5 V)=>(A4.still hV).blk;obtain ⟨c0,c1,c2,c3,c4,c5,c6,c7,c8,c9,c10⟩:=aP A4.blk;obtain ⟨HL4,HC4⟩:=aN hlen hcl;clear hlen hcl A4 e4 g4;simp only at c10
  go_upto_region 22 with fail
  go_region_held3 (fun V=>V.cell? ⟨M.q,0,none⟩=some (pp M.hp)∧V.cell? ⟨M.q,10,none⟩=some (.int .i64 ak')) ((refine ⟨(HC4.out _ ?_).cell 0,(HC4.out _ ?_).cell 10⟩<;>(with_reducible ((repeat (first|assumption|exact Fr.refl _ _|refine Fr.alloc ?_ _|refine Fr.drew ?_|refine Fr.drewN ?_ _|refine Fr.setCell ?_ (.inr (Nat.le_refl _)) _));done)))) (first
   |(go_at_call 16;refine (HL4.out _ (by with_reducible ((repeat (first|assumption|exact Fr.refl _ _|refine Fr.alloc ?_ _|refine Fr.drew ?_|refine Fr.drewN ?_ _));done))).mono ?_;rintro e w' ⟨rfl,rfl⟩))
  all_goals go_wp2_with fail
  all_goals go_ret
  all_goals rw [←HQE.out]
  all_goals refine ⟨ak',K1.out,K2.out,rfl,bP.base (F1.out.ah F2.out) (bP.chain G2.out.1 G2.out.2 ?_)⟩
  all_goals exact HE.out.then AA.out.lt fun al8 A5=>A5.self ((Fr.refl _ _).drew)
end
end Go.Proofs.YtodkhcbjpodgeaaGreat
