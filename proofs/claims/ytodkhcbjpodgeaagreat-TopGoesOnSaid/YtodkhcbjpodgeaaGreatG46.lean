/-
  A home and its followers are made.
-/
import Derived.Test.YtodkhcbjpodgeaaGreatG39
import Derived.BigRegion
namespace Go.Proofs.YtodkhcbjpodgeaaGreat
open Go.ChangeShapes Go.WideShapes Go.ChangeAt Go.RowKit
set_option linter.unusedVariables false
set_option maxRecDepth 100000
set_option maxHeartbeats 4000000
set_option linter.unusedSimpArgs false
set_option linter.unusedSectionVars false
variable {w w' :World}{lab lab' :Nat→Option Nat}{M:PM}{P:Pr}{F G:Nat→Prop}
theorem ag7 (W:World):(Instr.makeSlice 64 (.int .i64 2) (.int .i64 2)).run Tryz.prog W= .ok (.slice (some ⟨W.heap.size,0,none⟩) 2 2) (W.alloc (.cells #[.slice none 0 0,.slice none 0 0] aj3)):=by kernel_rfl
theorem ag8 (W:World):(Instr.makeSlice 65 (.int .i64 2) (.int .i64 2)).run Tryz.prog W= .ok (.slice (some ⟨W.heap.size,0,none⟩) 2 2) (W.alloc (.cells #[.slice none 0 0,.slice none 0 0] aj4)):=by kernel_rfl
theorem aip {W:World}{g:Nat}{t:TypeId}{xs:List Value}(hg:g=W.heap.size):Rd (W.alloc (.cells xs.toArray t)) (g+1) (some ⟨g,0,none⟩) xs:=by
 subst hg;exact Rd.new W _ t rfl
theorem adx:(Tryz.prog.info? qL).map (fun i=>(i.zero.map fun z=>z.cells.size,i.size,i.bytes))=some (some 1,1,8):=by kernel_rfl
theorem adw:(Tryz.prog.info? pG).map (fun i=>(i.zero.map fun z=>z.cells.size,i.size,i.bytes))=some (some 1,1,8):=by kernel_rfl
set_option maxHeartbeats 16000000 in
theorem qR (w:World)(lag:Int)(h1: -1≤lag)(h2:lag≤1000):Calls Tryz.prog 19 #[.int .i64 1,.int .i64 lag,.int .i64 2] w fun e w' =>∃M lab,e= .returned (.pointer (some ⟨M.q,0,none⟩))∧eH w' lab M (startP lag)∧(∀b j,lab b=some j→w.heap.size≤b)∧Fr No w w' :=by
 go_in
 go_wp2_with fail
 refine (lT _ _ _).mono ?_;rintro e w1 ⟨hp,rfl,hc,f1⟩;obtain ⟨gg,hgg,-⟩:=hc.gated;obtain ⟨HC,F1⟩:=aN hc f1;clear hc f1
 go_wp2_with fail
 refine (mQ _ 1 lag 0 dcd dcd h1 h2 dcd dcd).mono ?_;rintro e w2 ⟨l,rfl,hl,f2⟩;have ahf:=(f2.cell (p:=⟨hp,6,none⟩) (HC.out.lt _ HC.out.fp) id).trans hgg;have HL:=O hl.strict;have F2:=O f2;have hcp2:=HC.out.au f2;have HC2:=O hcp2;clear hl f2 hgg h1 h2 hcp2
 go_wp2_with fail
 refine (gG ahf).mono ?_;rintro e w5 ⟨rfl,hw5⟩;have hw6:=hw5.symm;subst hw6
 go_wp2_with fail
 refine (gG ahf).mono ?_;rintro e w5 ⟨rfl,hw5⟩;have hw6:=hw5.symm;subst hw6
 go_wp2_with fail
 refine (qp HC2.out ahf rfl ⟨0,1,0,0,1000⟩ dcd rfl dcd).mono ?_;rintro e w3 ⟨rfl,hto⟩;have HTO:=O hto;clear hto ahf HC2;have aqp:=ag7;have aqo:=ag8
 go_upto_region 7 with fail
 go_cut [10] from 42 to 49 (fun x wx=>∃q rs rh,x= .pointer (some ⟨q,0,none⟩)∧w3.heap.size≤rs∧w3.heap.size≤rh∧rs≠rh∧q≠rs∧q≠rh∧w3.heap.size≤q∧Blk wx rs aj3 #[.slice none 0 0,.slice none 0 0]∧Blk wx rh aj4 #[.slice none 0 0,.slice none 0 0]∧Blk wx q fU (ak9 hp l (.slice none 0 0) (.slice none 0 0) rs rh)∧Fr No w3 wx)
 case first=>
  go_region
  all_goals go_wp2_with fail
  all_goals go_meet
  all_goals first
   |exact ⟨_,w3.heap.size,w3.heap.size+1,rfl,by omega,by omega,by omega,by omega,by omega,by omega,Blk.vw (((Blk.new w3 _ _).fr (aj _ _) id).fr (aj _ _) id),Blk.vw ((Blk.newG _ _ _ (by simp)).fr (aj _ _) id),Blk.vw (Blk.newG _ _ _ (by simp)),(((aj _ _).alloc _).alloc _).drew⟩
   |exact ⟨_,w3.heap.size+1,w3.heap.size,rfl,by omega,by omega,by omega,by omega,by omega,by omega,Blk.vw ((Blk.newG _ _ _ (by simp)).fr (aj _ _) id),Blk.vw (((Blk.new w3 _ _).fr (aj _ _) id).fr (aj _ _) id),Blk.vw (Blk.newG _ _ _ (by simp)),(((aj _ _).alloc _).alloc _).drew⟩
 obtain ⟨q,rs,rh,rfl,hrs,hrh,hne,hqs,hqh,hq,brs,brh,bq,f4⟩:=hcut;generalize wc=v at*;have hqv:=bq.lt;obtain ⟨F4,BRS,BRH⟩:=bC f4 brs brh;have h0:tq v q hp l rs rh 0 v:=⟨fun _=>0,fun _=>0,fun _=>0,fun _=>0,.slice none 0 0,.slice none 0 0,fun j h=>absurd h (Nat.not_lt_zero j),fun i j _ h=>absurd h (Nat.not_lt_zero j),aA.nil _ _ _ _,aA.nil _ _ _ _,bq,Fr.refl _ _⟩;clear f4 brs brh bq aqp aqo
 go_wp2_with fail
 go_loopw [11] (fun i wr=>∃k:Nat,k≤2∧i= .int .i64 k∧tq v q hp l rs rh k wr) (fun i _=>2-(intOf i).toNat)
 case atStart=>exact ⟨0,by decide,rfl,h0⟩
 clear h0;obtain ⟨k,hk,rfl,hrel⟩:=hrel
 by_cases hlt:k<2
 ·have b2:decide ((k:Int)<2)=true:=dtt
  have hk2:(k:Int)<2:=by omega
  have hwk:IntKind.i64.wrap ((k:Int)+1)=(k:Int)+1:=IntWalk.i64_in _ oy;obtain ⟨cp,fp,a,b,rv,fv,t1,t2,t3,t4,t5,t6⟩:=hrel;obtain ⟨T1,T2,T3,T4,T5,T6⟩:=oK t1 t2 t3 t4 t5 t6;clear t1 t2 t3 t4 t5 t6
  go_wp2_with fail
  refine (lT _ _ _).mono ?_;rintro e v2 ⟨x,rfl,hcx,f2⟩
  go_wp2_with fail
  refine (oF _ _).mono ?_;rintro e u ⟨f,rfl,hbf,hfv,fu⟩;have F2' :=f2.ah fu;have hbu:=T5.out.fr F2' id;have r1:aA u (fun i=>rv.ownBlock=some i) qL 1 rv k ((List.range k).map fun j=>pp (cp j)):=⟨(T3.out.au F2').1,fun g hg=>hg⟩;have r2:aA u (fun i=>fv.ownBlock=some i) pG 1 fv k ((List.range k).map fun j=>pp (fp j)):=⟨(T4.out.au F2').1,fun g hg=>hg⟩;have hnext:=fun W' =>tq.next (hp:=hp) (l:=l) (rs:=rs) (rh:=rh) (W' :=W') hqv T1.out T2.out T3.out T4.out T6.out hcx f2 hbf hfv fu;have hab:=fun (V w8 U w9:World) (rv' fv' :Value) (q1:Fr No u V) (q2:aJ V 0 qL 1 rv k ((List.range k).map fun j=>pp (cp j)) [pp x] 1 rv' w8) (q3:Fr No w8 U) (q4:aJ U 0 pG 1 fv k ((List.range k).map fun j=>pp (fp j)) [pp f] 1 fv' w9)=>(let ⟨z1,z2,z3⟩:=ah4 dcd r1 r2 q1 q2 q3 q4;hnext _ (ah6 hbu r1 r2 z1 z2 z3):tq v q hp l rs rh (k+1) ((w9.setCell ⟨q,2,none⟩ rv').setCell ⟨q,3,none⟩ fv'));have hrw:∀i,rv.ownBlock=some i→i<u.heap.size:=fun i hi=>r1.lt i hi;have hfw:∀i,fv.ownBlock=some i→i<u.heap.size:=fun i hi=>r2.lt i hi;have hA:∀(V w8:World) (r:Value),Fr No u V→aJ V 0 qL 1 rv k ((List.range k).map fun j=>pp (cp j)) [pp x] 1 r w8→(∃A c,r= .slice A (k+1) c)∧w8.cell? ⟨q,2,none⟩=some rv∧w8.cell? ⟨q,3,none⟩=some fv∧w8.frozen? ⟨q,2,none⟩=false∧w8.frozen? ⟨q,3,none⟩=false∧q<w8.heap.size∧
    Hid (∀U,Fr No w8 U→aA U (fun i=>fv.ownBlock=some i) pG 1 fv k ((List.range k).map fun j=>pp (fp j)))∧Hid (∀(g:Nat) (t:TypeId) (cs:Array Value),u.heap.size≤g→Blk V g t cs→Blk w8 g t cs)∧
    Hid (∀(U w9:World) (r2:Value),Fr No w8 U→aJ U 0 pG 1 fv k ((List.range k).map fun j=>pp (fp j)) [pp f] 1 r2 w9→(∃A c,r2= .slice A (k+1) c)∧w9.cell? ⟨q,2,none⟩=some rv∧w9.cell? ⟨q,3,none⟩=some fv∧w9.frozen? ⟨q,2,none⟩=false∧w9.frozen? ⟨q,3,none⟩=false∧q<w9.heap.size∧Hid (tq v q hp l rs rh (k+1) ((w9.setCell ⟨q,2,none⟩ r).setCell ⟨q,3,none⟩ r2))):=fun V w8 r q1 q2=>by
   obtain ⟨p1,p2,p3,p4⟩:=xE (r1.au q1) hrw q2;have b8:=p3 q fU _ (.inr dcd) (hbu.fr q1 id);refine ⟨p1,b8.cell 2,b8.cell 3,b8.frozen 2,b8.frozen 3,b8.lt,O fun U hU=>(p4 _ _ _ _ _ _ dcd (r2.au q1)).au hU,O fun g t cs hg hb=>p3 g t cs (.inl hg) hb,O fun U w9 r3 q3 q4=> ?_⟩;obtain ⟨y1,y2,y3,y4⟩:=xE ((p4 _ _ _ _ _ _ dcd (r2.au q1)).au q3) hfw q4;have b9:=y3 q fU _ (.inr dcd) (b8.fr q3 id);exact ⟨y1,b9.cell 2,b9.cell 3,b9.frozen 2,b9.frozen 3,b9.lt,O (hab _ _ _ _ _ _ q1 q2 q3 q4)⟩
  have hrc:=fun V (hV:Fr No u V)=>r1.au hV;have hrf:=fun V (hV:Fr No u V)=>r2.au hV;obtain ⟨y0,y1,y2,y3,-⟩:=aP hbu;have z2:=hbu.frozen 2;have z3:=hbu.frozen 3;have hqu:=hbu.lt;obtain ⟨i1,zi,k1,k2,k3,k4,k5⟩:=dY adx;obtain ⟨j1,zj,l1,l2,l3,l4,l5⟩:=dY adw;obtain ⟨HA1,HA2,HA3,HA4,HA5,HB1,HB2,HB3,HB4,HB5,HA,HRC⟩:=nS k1 k2 k4 k5 k3 l1 l2 l4 l5 l3 hA hrc;have HRF:=O hrf;clear hA hrc hrf hab hnext r1 r2 hbu hbf hcx f2 fu F2' hrw hfw T1 T2 T3 T4 T5 T6 k1 k2 k3 k4 k5 l1 l2 l3 l4 l5
  go_upto_region 17 with fail
  go_region_law (first
   |(refine aI _ rfl (.tmp 69) (.tmp 71) _ rfl 0 qL i1 zi 1 8 Tryz.underlying62 HA1.out HA2.out HA3.out HA4.out HA5.out dcd rv k ((List.range k).map fun j=>pp (cp j)) rfl (HRC.out _ (((Fr.refl No u).drew).alloc _)).1 (u.heap.size+1) (some ⟨u.heap.size,0,none⟩) 1 1 [pp x] rfl (fun h=>by cases h) (Rd.new u.drew _ qL rfl) rfl (by simp [pp,Value.oneCell']) mxl oy (Nat.zero_le _) ?_;intro rA wA hap;obtain ⟨⟨AA,cA,hfA⟩,yy2,yy3,zz2,zz3,hql,KBA,HBA,aoh⟩:=HA.out _ _ _ (((Fr.refl No u).drew).alloc _) hap;subst hfA;clear hap)
   |(refine aI _ rfl (.tmp 69) (.tmp 71) _ rfl 0 qL i1 zi 1 8 Tryz.underlying62 HA1.out HA2.out HA3.out HA4.out HA5.out dcd rv k ((List.range k).map fun j=>pp (cp j)) rfl (HRC.out _ ((((Fr.refl No u).drew).alloc _).alloc _)).1 (u.heap.size+1) (some ⟨u.heap.size,0,none⟩) 1 1 [pp x] rfl (fun h=>by cases h) ((Rd.new u.drew [pp x] qL rfl).au (aj _ _) (by simp)) rfl (by simp [pp,Value.oneCell']) mxl oy (Nat.zero_le _) ?_;intro rA wA hap;obtain ⟨⟨AA,cA,hfA⟩,yy2,yy3,zz2,zz3,hql,KBA,HBA,aoh⟩:=HA.out _ _ _ ((((Fr.refl No u).drew).alloc _).alloc _) hap;subst hfA;clear hap)
   |(refine aI _ rfl (.tmp 69) (.tmp 71) _ rfl 0 qL i1 zi 1 8 Tryz.underlying62 HA1.out HA2.out HA3.out HA4.out HA5.out dcd rv k ((List.range k).map fun j=>pp (cp j)) rfl (HRC.out _ ((((Fr.refl No u).drew).alloc _).alloc _)).1 (u.heap.size+1+1) (some ⟨u.heap.size+1,0,none⟩) 1 1 [pp x] rfl (fun h=>by cases h) (aip (by simp)) rfl (by simp [pp,Value.oneCell']) mxl oy (Nat.zero_le _) ?_;intro rA wA hap;obtain ⟨⟨AA,cA,hfA⟩,yy2,yy3,zz2,zz3,hql,KBA,HBA,aoh⟩:=HA.out _ _ _ ((((Fr.refl No u).drew).alloc _).alloc _) hap;subst hfA;clear hap)
   |(refine aI _ rfl (.tmp 76) (.tmp 78) _ rfl 0 pG j1 zj 1 8 Tryz.underlying63 HB1.out HB2.out HB3.out HB4.out HB5.out dcd fv k ((List.range k).map fun j=>pp (fp j)) rfl (KBA.out _ (Fr.refl _ _)).1 _ (some ⟨u.heap.size,0,none⟩) 1 1 [pp f] rfl (fun h=>by cases h) (Rd.ai0 (HBA.out _ _ _ oy (Blk.fr (F:=No) (Blk.new u.drew pG #[pp f]) (aj _ _) id))) rfl (by simp [pp,Value.oneCell']) mxl oy (Nat.zero_le _) ?_;intro rB wB hap;obtain ⟨⟨AB,cB,hfB⟩,yy2,yy3,zz2,zz3,hql,asg⟩:=aoh.out _ _ _ (Fr.refl _ _) hap;subst hfB;clear hap)
   |(refine aI _ rfl (.tmp 76) (.tmp 78) _ rfl 0 pG j1 zj 1 8 Tryz.underlying63 HB1.out HB2.out HB3.out HB4.out HB5.out dcd fv k ((List.range k).map fun j=>pp (fp j)) rfl (KBA.out _ (Fr.refl _ _)).1 _ (some ⟨u.heap.size+1,0,none⟩) 1 1 [pp f] rfl (fun h=>by cases h) (Rd.ai0 (HBA.out _ _ _ oy (Blk.newG _ pG #[pp f] (by simp)))) rfl (by simp [pp,Value.oneCell']) mxl oy (Nat.zero_le _) ?_;intro rB wB hap;obtain ⟨⟨AB,cB,hfB⟩,yy2,yy3,zz2,zz3,hql,asg⟩:=aoh.out _ _ _ (Fr.refl _ _) hap;subst hfB;clear hap)
   |(refine aI _ rfl (.tmp 76) (.tmp 78) _ rfl 0 pG j1 zj 1 8 Tryz.underlying63 HB1.out HB2.out HB3.out HB4.out HB5.out dcd fv k ((List.range k).map fun j=>pp (fp j)) rfl (KBA.out _ (aj _ _)).1 (wA.heap.size+1) (some ⟨wA.heap.size,0,none⟩) 1 1 [pp f] rfl (fun h=>by cases h) (Rd.new wA _ pG rfl) rfl (by simp [pp,Value.oneCell']) mxl oy (Nat.zero_le _) ?_;intro rB wB hap;obtain ⟨⟨AB,cB,hfB⟩,yy2,yy3,zz2,zz3,hql,asg⟩:=aoh.out _ _ _ (aj _ _) hap;subst hfB;clear hap))
  all_goals
   go_wp2_with fail
   go_roundw
   case rel=>exact ⟨k+1,by omega,by go_num,asg.out⟩
   case measure=>simp [intOf];omega
 ·obtain rfl:k=2:=by omega
  obtain ⟨F',hc3,hs3,f3⟩:=HTO.out;have s1:=F1.out.size;have s2:=F2.out.size;have s3:=f3.size;have s4:=F4.out.size;have tf:Fr (fun i=>i=q) v wr:=by obtain ⟨_,_,_,_,_,_,_,_,_,_,_,t6⟩:=hrel;exact t6
  have hl3:=(((HL.out.fr f3 (fun i hi hg=>by omega)).fr F4.out (fun _ _ h=>h)).fr tf (fun i hi e=>by omega));have hc4:=((hc3.au F4.out).fr tf (fun i hi e=>by have:=hc3.lt i hi;omega));have b4:=BRS.out.fr tf (fun e=>hqs e.symm);have b5:=BRH.out.fr tf (fun e=>hqh e.symm);have him:=hl3.isMap;have hadd:=qj hl3 1 0 true dcd dcd dcd dcd rfl dcd;have l1:=BRS.out.lt;have l2:=BRH.out.lt;have hfin:∀(W:World) (D:DataW Unit),aL W (fun i=>w1.heap.size≤i∧i<w2.heap.size) l 1 lag 0 D→zC D (startP lag).pg→Fr (fun i=>w1.heap.size≤i∧i<w2.heap.size) wr W→∃M lab,M.q=q∧eH W lab M (startP lag)∧(∀b j,lab b=some j→w.heap.size≤b)∧Fr No w W:=fun W D hL hR fW=>by
   obtain ⟨M,lab,e1,hP,hlo⟩:=ad1 (n0:=w.heap.size) (n1:=w1.heap.size) (n2:=w2.heap.size) (n3:=w3.heap.size) (H:=F') (fun i hi=>(hs3 i hi).elim (fun h=> .inl h) (fun h=> .inr ⟨h,hc3.lt i hi⟩)) s1 s2 s3 s4 hrs hrh hne hq hqv l1 l2 (hc4.fr fW (fun i hi hg=>by have:=hs3 i hi;omega)) hL hR (b4.fr fW (fun hg=>by omega)) (b5.fr fW (fun hg=>by omega)) hrel fW;exact ⟨M,lab,e1,hP,hlo,((((((F1.out.ah F2.out).aD f3 fun i hi=>hi.1).ah F4.out).aD tf fun i hi=>by omega).aD fW fun i hi=>by omega))⟩
  obtain ⟨aph,eu⟩:=aN hadd hfin;clear hadd hfin hl3 hc4 b4 b5 tf hs3 hc3 f3 hrel
  go_wp2_with fail
  refine aph.out.mono ?_;rintro e w9 ⟨rfl,hL9,f9⟩;obtain ⟨M,lab,e1,hP,hlo,f10⟩:=eu.out w9 _ hL9 (wu.put him dcd _) f9
  go_wp2_with fail
  go_ret
  exact ⟨M,lab,by subst e1;rfl,hP,hlo,f10⟩
end Go.Proofs.YtodkhcbjpodgeaaGreat
