/-
  The platform of the sanity check, in memory.
-/
import Derived.Test.YtodkhcbjpodgeaaGreatG50
import Derived.Test.YtodkhcbjpodgeaaGreatG38
namespace Go.Proofs.YtodkhcbjpodgeaaGreat
open Go.ChangeShapes Go.WideShapes Go.ChangeAt Go.RowKit
set_option linter.unusedVariables false
set_option maxRecDepth 100000
set_option maxHeartbeats 4000000
section
set_option linter.unusedSimpArgs false
variable {w w' :World}{F G:Nat→Prop}{lab lab' :Nat→Option Nat}{p z n m k:Nat}{pv:Nat→Nat}{q:Qs}{c:Cx}{s:Sx}
abbrev ao4:TypeId:=112
abbrev vP:TypeId:=23
abbrev TRow:TypeId:=62
abbrev smC (c:Cx)(p cb cc:Nat)(vg:Value):Array Value:= #[.int .i64 2,.slice (some ⟨c.bz,0,none⟩) 2 c.cz,.slice (some ⟨c.bc,0,none⟩) 2 c.cc,.slice (some ⟨c.bt,0,none⟩) 1 c.ct,.slice (some ⟨c.bv,0,none⟩) 1 c.cv,.slice (some ⟨c.br,0,none⟩) 1 c.cr,.slice (some ⟨c.bo,0,none⟩) 1 c.co,.int .i64 1,.int .i64 20,.int .i64 0,.pointer (some ⟨p,0,none⟩),.slice (some ⟨cb,0,none⟩) 1 cc,vg,.slice none 0 0,.int .i64 0]
structure SM where
 g:Nat
 p:Nat
 z:Nat
 pv:Nat→Nat
 c0:Cx
 c:Cx
 cb:Nat
 cc:Nat
 rb:Nat
 rc:Nat
 x0:Nat
 x1:Nat
structure vQ (w:World) (M:SM) (lab:Nat→Option Nat) (G:Nat→Prop) (q:Qs) (n:Nat) (s:Sx) (k:Nat) (K:Kp) (vg:Value) (m:Nat):Prop where
 lg:lab M.g=none∧M.g≠M.p
 blk:Blk w M.g ao4 (smC M.c0 M.p M.cb M.cc vg)
 pl:jC w M.p M.z lab M.pv q n M.c s k
 plg:eB w (fun b=>lab b=none∧b≠M.p∧b≠M.g∧¬G b) M.c∧eD w (fun b=>lab b=none∧b≠M.p∧b≠M.g∧¬G b) s k
 c0:eB w (fun b=>lab b=none∧b≠M.p∧b≠M.g∧¬G b) M.c0
 r1:aA w (fun b=>lab b=none∧b≠M.p∧b≠M.g∧¬G b) TRow 1 (.slice (some ⟨M.cb,0,none⟩) 1 M.cc) 1 [.slice (some ⟨M.rb,0,none⟩) 2 M.rc]
 r2:aA w (fun b=>lab b=none∧b≠M.p∧b≠M.g∧¬G b) vP 1 (.slice (some ⟨M.rb,0,none⟩) 2 M.rc) 2 [.pointer (some ⟨M.x0,0,none⟩),.pointer (some ⟨M.x1,0,none⟩)]
 vg:aA w (fun b=>lab b=none∧b≠M.p∧b≠M.g∧¬G b) ig 7 vg m (if m=0 then [] else spL)
 cp:aM w G M.x0 K
 gg:∀b,G b→lab b=none∧b≠M.p∧b≠M.g
theorem winfo_Row:(Tryz.prog.info? TRow).map (fun i=>(i.zero.map fun z=>z.cells.size,i.size,i.bytes))=some (some 1,1,24):=by kernel_rfl
theorem zP:(Tryz.prog.info? vP).map (fun i=>(i.zero.map fun z=>z.cells.size,i.size,i.bytes))=some (some 1,1,8):=by kernel_rfl
theorem vQ.au {M:SM}{K:Kp}{vg:Value}(h:vQ w M lab G q n s k K vg m)(hf:Fr No w w'):vQ w' M lab G q n s k K vg m:=
 ⟨h.lg,h.blk.fr hf id,h.pl.au hf,⟨h.plg.1.au hf,h.plg.2.au hf⟩,h.c0.au hf,h.r1.au hf,h.r2.au hf,h.vg.au hf,h.cp.au hf,h.gg⟩
def aj6 (v:World)(x0 x1 b:Nat)(k:Nat)(r:Value)(W:World):Prop:=
 Fr No v W∧b≤W.heap.size∧v.heap.size≤b∧(k=0→r= .slice none 0 0)∧(0<k→aM W (fun i=>v.heap.size≤i∧i<b) x0 (cs0 0 0))∧aA W (fun i=>b≤i) vP 1 r k ([.pointer (some ⟨x0,0,none⟩),.pointer (some ⟨x1,0,none⟩)].take k)
end
section
set_option linter.unusedSimpArgs false
variable {w w' :World}{F G:Nat→Prop}
theorem aM.apm {p:Nat}{c:Kp}(h:aM w F p c)(hFG:∀i,F i→G i)(hlt:∀i,G i→i<w.heap.size):aM w G p c:=by
 obtain ⟨s,q,t,g,Ah,ch,b,o,n,k⟩:=h.at_;exact ⟨hlt,hFG _ h.fp,s,q,t,g,Ah,ch,b,o.mono hFG,⟨n.1.mono hFG,n.2.1.mono hFG,n.2.2.mono hFG⟩,k.mono hFG⟩
theorem aA.strict {e:TypeId}{size n:Nat}{v:Value}{xs:List Value}(h:aA w F e size v n xs):aA w (fun b=>F b∧b<w.heap.size) e size v n xs:=⟨h.1,fun g hg=>⟨h.2 g hg,h.lt g hg⟩⟩
theorem eB.strict {c:Cx}(h:eB w F c):eB w (fun b=>F b∧b<w.heap.size) c:=⟨h.z.strict,h.k.strict,h.t.strict,h.v.strict,h.r.strict,h.o.strict⟩
theorem eD.strict {s:Sx}{k:Nat}(h:eD w F s k):eD w (fun b=>F b∧b<w.heap.size) s k:=⟨h.t.strict,h.c.strict⟩
theorem nU {V:World}{g:Nat}{t:TypeId}{a0 a1 a2 a3 a4 a5 a6 a7 a8 a9 a10 a11 a12 a13 a14:Value}(h:Blk V g t #[a0,a1,a2,a3,a4,a5,a6,a7,a8,a9,a10,a11,a12,a13,a14]):V.cell? ⟨g,10,none⟩=some a10∧V.cell? ⟨g,11,none⟩=some a11∧V.cell? ⟨g,12,none⟩=some a12:=⟨h.cell 10,h.cell 11,h.cell 12⟩
def aoj (v:World)(g5:Nat)(bs:Array Value→Prop)(W:World):Prop:=
 ∃x0 x1 b rb rc cb cc cs,bs cs∧cs[11]? =some (.slice (some ⟨cb,0,none⟩) 1 cc)∧v.heap.size≤b∧b≤W.heap.size∧aM W (fun i=>v.heap.size≤i∧i<b) x0 (cs0 0 0)∧aA W (fun i=>b≤i) vP 1 (.slice (some ⟨rb,0,none⟩) 2 rc) 2 [.pointer (some ⟨x0,0,none⟩),.pointer (some ⟨x1,0,none⟩)]∧aA W (fun i=>b≤i) TRow 1 (.slice (some ⟨cb,0,none⟩) 1 cc) 1 [.slice (some ⟨rb,0,none⟩) 2 rc]∧Blk W g5 ao4 cs∧Fr (fun i=>i=g5) v W
set_option maxHeartbeats 8000000 in
theorem ac5 {bz cz bc cc bt ct bv cv br cr bo co:Nat}(hc:eB w F ⟨bz,cz,bc,cc,bt,ct,bv,cv,br,cr,bo,co⟩):Calls Tryz.prog 30 #[.agg #[.int .i64 2,.slice (some ⟨bz,0,none⟩) 2 cz,.slice (some ⟨bc,0,none⟩) 2 cc,.slice (some ⟨bt,0,none⟩) 1 ct,.slice (some ⟨bv,0,none⟩) 1 cv,.slice (some ⟨br,0,none⟩) 1 cr,.slice (some ⟨bo,0,none⟩) 1 co,.int .i64 1,.int .i64 20,.int .i64 0]] w fun e w' =>∃M lab s b0 b1,e= .returned (.pointer (some ⟨M.g,0,none⟩))∧vQ w' M lab (fun i=>b0≤i∧i<b1) qs0 0 s 0 (cs0 0 0) (.slice none 0 0) 0∧((∀b j,lab b=some j→w.heap.size≤b)∧w.heap.size≤M.p∧w.heap.size≤M.g∧w.heap.size≤b0)∧Fr No w w' :=by
 have hlc:=hc.lts;have hcx:=fun V (hV:Fr No w V)=>hc.au hV;clear hc;simp only at hlc;obtain ⟨g1,w1,hg1,hw1,fa1,hz1,b1⟩:=mk1 w #[.int .i64 2,.slice (some ⟨bz,0,none⟩) 2 cz,.slice (some ⟨bc,0,none⟩) 2 cc,.slice (some ⟨bt,0,none⟩) 1 ct,.slice (some ⟨bv,0,none⟩) 1 cv,.slice (some ⟨br,0,none⟩) 1 cr,.slice (some ⟨bo,0,none⟩) 1 co,.int .i64 1,.int .i64 20,.int .i64 0] TCf;have FB1:Fr No w w1:=fa1;have hal:∀V,Fr No w1 V→V.cell? ⟨g1,0,none⟩=some (.int .i64 2)∧V.cell? ⟨g1,1,none⟩=some (.slice (some ⟨bz,0,none⟩) 2 cz)∧V.cell? ⟨g1,2,none⟩=some (.slice (some ⟨bc,0,none⟩) 2 cc)∧V.cell? ⟨g1,3,none⟩=some (.slice (some ⟨bt,0,none⟩) 1 ct)∧V.cell? ⟨g1,4,none⟩=some (.slice (some ⟨bv,0,none⟩) 1 cv)∧V.cell? ⟨g1,5,none⟩=some (.slice (some ⟨br,0,none⟩) 1 cr)∧V.cell? ⟨g1,6,none⟩=some (.slice (some ⟨bo,0,none⟩) 1 co)∧V.cell? ⟨g1,7,none⟩=some (.int .i64 1)∧V.cell? ⟨g1,8,none⟩=some (.int .i64 20)∧V.cell? ⟨g1,9,none⟩=some (.int .i64 0):=fun V hV=>⟨(b1.fr hV id).cell 0,(b1.fr hV id).cell 1,(b1.fr hV id).cell 2,(b1.fr hV id).cell 3,(b1.fr hV id).cell 4,(b1.fr hV id).cell 5,(b1.fr hV id).cell 6,(b1.fr hV id).cell 7,(b1.fr hV id).cell 8,(b1.fr hV id).cell 9⟩;have HAL:=O hal;have fP:g1<w1.heap.size:=b1.lt;have jQ:w.heap.size≤g1:=by omega
 have hsB:w.heap.size≤w1.heap.size:=FB1.size;obtain ⟨FB,HCX,B1_⟩:=bC FB1 hcx b1;clear hal fa1 b1 FB1 hcx;obtain ⟨HW1,HG1,HZ1⟩:=bC hw1 hg1 hz1;clear hz1 hg1 hw1
 go_in
 go_upto_region 1 with fail
 rw [←HW1.out]
 try rw [←HG1.out]
 clear HW1 HG1 HZ1;obtain ⟨q0_,q1_,q2_,q3_,q4_,q5_,q6_,q7_,q8_,q9_⟩:=HAL.out _ (Fr.refl _ _);have auc:=HCX.out _ (Fr.refl No w);have HC0:=O auc.strict;clear auc
 go_wp2_with fail
 refine (aey (HCX.out _ FB.out)).mono ?_;rintro e v ⟨p,z,lab,pv,c2,s2,rfl,hpl,hlo,hc2,hpw,f⟩;clear q0_ q1_ q2_ q3_ q4_ q5_ q6_ q7_ q8_ q9_;obtain ⟨q0_,q1_,q2_,q3_,q4_,q5_,q6_,q7_,q8_,q9_⟩:=HAL.out _ f;have hpv:p<v.heap.size:=hpl.blk.lt;have hfs:=f.size;obtain ⟨g5,v1,hg5,hv1,fv1,hz5,b5⟩:=mk1 v #[.int .i64 2,.slice (some ⟨bz,0,none⟩) 2 cz,.slice (some ⟨bc,0,none⟩) 2 cc,.slice (some ⟨bt,0,none⟩) 1 ct,.slice (some ⟨bv,0,none⟩) 1 cv,.slice (some ⟨br,0,none⟩) 1 cr,.slice (some ⟨bo,0,none⟩) 1 co,.int .i64 1,.int .i64 20,.int .i64 0,.pointer (some ⟨p,0,none⟩),.slice none 0 0,.slice none 0 0,.slice none 0 0,.int .i64 0] ao4;obtain ⟨HPL,HLO,HC2,HG5,HV1,FV1,B5,HZ5,F0⟩:=akp hpl hlo hc2 hg5 hv1 fv1 b5 hz5 f;have azb:g5<v1.heap.size:=b5.lt;have hv5:v.heap.size≤g5:=by omega
 clear hpl hlo hc2 hg5 hv1 fv1 b5 hz5 f
 go_upto_region 5 with fail
 rw [←HV1.out,←HG5.out];clear q0_ q1_ q2_ q3_ q4_ q5_ q6_ q7_ q8_ q9_
 go_wp2_with fail
 go_loopw [6] (fun t wr=>(t= .int .i64 0∧wr=v1)∨(t= .int .i64 1∧aoj v1 g5 (fun cs=>∃cb cc_,cs= #[.int .i64 2,.slice (some ⟨bz,0,none⟩) 2 cz,.slice (some ⟨bc,0,none⟩) 2 cc,.slice (some ⟨bt,0,none⟩) 1 ct,.slice (some ⟨bv,0,none⟩) 1 cv,.slice (some ⟨br,0,none⟩) 1 cr,.slice (some ⟨bo,0,none⟩) 1 co,.int .i64 1,.int .i64 20,.int .i64 0,.pointer (some ⟨p,0,none⟩),.slice (some ⟨cb,0,none⟩) 1 cc_,.slice none 0 0,.slice none 0 0,.int .i64 0]) wr)) (fun t _=>1-(intOf t).toNat)
 case atStart=>exact .inl ⟨rfl,rfl⟩
 obtain ⟨rfl,hw⟩|⟨rfl,hd⟩:=hrel
 ·have hw' :=hw.symm
  subst hw';obtain ⟨q0_,q1_,q2_,q3_,q4_,q5_,q6_,q7_,q8_,q9_⟩:=HAL.out _ (F0.out.ah FV1.out);have ayz:g1<v1.heap.size:=nll fP (F0.out.ah FV1.out).size
  go_wp2_with fail
  clear q0_ q1_ q2_ q3_ q4_ q5_ q6_ q7_ q8_ q9_
  go_loopw [7,8] (fun r i wr' =>∃k x0 x1 b,k≤2∧i= .int .i64 (k:Nat)∧aj6 v1 x0 x1 b k r wr') (fun _ i _=>2-(intOf i).toNat)
  case atStart=>exact ⟨0,0,0,v1.heap.size,by decide,rfl,Fr.refl _ _,Nat.le_refl _,Nat.le_refl _,fun _=>rfl,fun h=>absurd h dcd,aA.nil _ _ _ _⟩
  obtain ⟨k,x0,x1,b,hk,rfl,hf,hb1,hb2,hr0,hcp,hrow⟩:=hrel;obtain ⟨q0_,q1_,q2_,q3_,q4_,q5_,q6_,q7_,q8_,q9_⟩:=HAL.out _ ((F0.out.ah FV1.out).ah hf);obtain ⟨i1,z1,hi1,hz0,hz,hz1,hz2⟩:=dY zP;obtain rfl|rfl|rfl:k=0∨k=1∨k=2:=by omega
  ·have HF:=O hf
   obtain ⟨zG,HCP⟩:=aN hrow hcp;clear hf hrow hcp;obtain rfl:=hr0 rfl;clear hr0
   go_wp2_with fail
   refine (lT _ _ _).mono ?_;rintro e v2 ⟨xn,rfl,hcn,f2⟩;obtain ⟨gg,hgg,_⟩:=hcn.gated;have HCN:=O hcn;clear hcn q0_ q1_ q2_ q3_ q4_ q5_ q6_ q7_ q8_ q9_
   go_wp2_with fail
   refine (gG hgg).mono ?_;rintro e w5 ⟨rfl,hw5⟩;have hw6:=hw5.symm;subst hw6;have hrd:=Rd.new v2 [.pointer (some ⟨xn,0,none⟩)] vP rfl;have HRD:=O hrd;clear hrd;have hro:aA (v2.alloc (.cells [Value.pointer (some ⟨xn,0,none⟩)].toArray vP)) (fun i=>v2.heap.size≤i) vP 1 (.slice none 0 0) 0 []:=aA.nil _ _ _ _;obtain ⟨HRO,F2⟩:=aN hro f2;clear hro f2 hgg
   go_wp2_with (at_builtin;refine aB _ rfl (.tmp 50) (.tmp 52) _ rfl 0 vP i1 z1 1 8 Tryz.underlying62 hi1 hz0 hz1 hz2 hz dcd (.slice none 0 0) 0 [] rfl HRO.out.1 (v2.heap.size+1) (some ⟨v2.heap.size,0,none⟩) 1 1 [.pointer (some ⟨xn,0,none⟩)] rfl (fun h=>by cases h) HRD.out rfl (by simp [Value.oneCell']) dcd dcd (Nat.zero_le _) ?_)
   intro r6 w6 happ;have hnl:=HRO.out;obtain ⟨o1,f6⟩:=hnl.appended happ;obtain ⟨A6,c6,rfl,-⟩:=o1.form;have hsz2:=F2.out.size;have aqg:=HF.out.size;have hszA:(v2.alloc (.cells [Value.pointer (some ⟨xn,0,none⟩)].toArray vP)).heap.size=v2.heap.size+1:=by simp
   have aqf:=f6.size;have hfin:aj6 v1 xn 0 v2.heap.size 1 (.slice A6 1 c6) w6:=⟨(((HF.out.ah F2.out).alloc _).aD f6 fun i hi=>by omega),by omega,by omega,fun h=>absurd h dcd,fun _=>((HCN.out.fr (aj _ _) (fun _ _ h=>h)).fr f6 (fun i hi h=>by omega)).apm (fun i hi=>by omega) (fun i hi=>by omega),o1.mono fun i hi=>hi.elim id fun h=>by omega⟩;have eu:=O hfin;clear hfin happ o1 f6 hszA
   go_wp2_with fail
   go_roundw
   case rel=>exact ⟨1,_,_,_,by decide,rfl,eu.out⟩
   case measure=>simp [intOf]
  ·have HF:=O hf
   obtain ⟨zG,HCP⟩:=aN hrow hcp;clear hf hrow hcp;obtain ⟨A_,c_,hform,_⟩:=zG.out.form;subst hform;clear hr0
   go_wp2_with fail
   refine (lT _ _ _).mono ?_;rintro e v2 ⟨xn,rfl,hcn,f2⟩;obtain ⟨gg,hgg,_⟩:=hcn.gated;have HCN:=O hcn;clear hcn q0_ q1_ q2_ q3_ q4_ q5_ q6_ q7_ q8_ q9_
   go_wp2_with fail
   refine (gG hgg).mono ?_;rintro e w5 ⟨rfl,hw5⟩;have hw6:=hw5.symm;subst hw6;have hrd:=Rd.new v2 [.pointer (some ⟨xn,0,none⟩)] vP rfl;have HRD:=O hrd;clear hrd;have hro:aA (v2.alloc (.cells [Value.pointer (some ⟨xn,0,none⟩)].toArray vP)) (fun i=>b≤i) vP 1 (.slice A_ 1 c_) 1 [.pointer (some ⟨x0,0,none⟩)]:=zG.out.au (f2.ah (aj _ _));obtain ⟨HRO,F2⟩:=aN hro f2;clear hro f2 hgg
   go_wp2_with (at_builtin;refine aB _ rfl (.tmp 50) (.tmp 52) _ rfl 0 vP i1 z1 1 8 Tryz.underlying62 hi1 hz0 hz1 hz2 hz dcd (.slice A_ 1 c_) 1 [.pointer (some ⟨x0,0,none⟩)] rfl HRO.out.1 (v2.heap.size+1) (some ⟨v2.heap.size,0,none⟩) 1 1 [.pointer (some ⟨xn,0,none⟩)] rfl (fun h=>by cases h) HRD.out rfl (by simp [Value.oneCell']) dcd dcd (Nat.zero_le _) ?_)
   intro r6 w6 happ;obtain ⟨o1,f6⟩:=HRO.out.appended happ;obtain ⟨A6,c6,rfl,-⟩:=o1.form;have hsz2:=F2.out.size;have aqg:=HF.out.size;have hszA:(v2.alloc (.cells [Value.pointer (some ⟨xn,0,none⟩)].toArray vP)).heap.size=v2.heap.size+1:=by simp
   have aqf:=f6.size;have hcp1:=HCP.out dcd;have hfin:aj6 v1 x0 xn b 2 (.slice A6 2 c6) w6:=⟨(((HF.out.ah F2.out).alloc _).aD f6 fun i hi=>by omega),by omega,by omega,fun h=>absurd h dcd,fun _=>(((hcp1.fr F2.out (fun _ _ h=>h)).fr (aj _ _) (fun _ _ h=>h)).fr f6 (fun i hi h=>by omega)),o1.mono fun i hi=>hi.elim id fun h=>by omega⟩;have eu:=O hfin;clear hfin happ o1 f6 hszA hcp1
   go_wp2_with fail
   go_roundw
   case rel=>exact ⟨2,_,_,_,by decide,rfl,eu.out⟩
   case measure=>simp [intOf]
  ·have HF:=O hf
   have hcp1:=hcp dcd;have aqi:=hrow;obtain ⟨A_,c_,hform,-⟩:=hrow.form;subst hform;obtain ⟨rb,hrb,_⟩:=hrow.head dcd;subst hrb;obtain ⟨zG,HCP,HB5⟩:=bC hrow hcp1 (B5.out.fr hf id);obtain ⟨_,y11,_⟩:=nU HB5.out;have z11:=HB5.out.frozen 11;clear aqi hrow hcp hcp1 hr0 q0_ q1_ q4_ q5_ q6_ q7_ q8_ q9_ hf;obtain ⟨j1,u1,hj1,hu0,hu,hu1,hu2⟩:=dY winfo_Row;have hrd:=Rd.new wr [.slice (some ⟨rb,0,none⟩) 2 c_] TRow rfl;have HRD:=O hrd;have hro:aA (wr.alloc (.cells [Value.slice (some ⟨rb,0,none⟩) 2 c_].toArray TRow)) No TRow 1 (.slice none 0 0) 0 []:=aA.nil _ _ _ _;have HRO:=O hro;have ax8:=HF.out.size;clear hrd hro
   go_wp2_with (at_builtin;refine aB _ rfl (.tmp 58) (.tmp 60) _ rfl 0 TRow j1 u1 1 24 Tryz.underlying108 hj1 hu0 hu1 hu2 hu dcd (.slice none 0 0) 0 [] rfl HRO.out.1 (wr.heap.size+1) (some ⟨wr.heap.size,0,none⟩) 1 1 [.slice (some ⟨rb,0,none⟩) 2 c_] rfl (fun h=>by cases h) HRD.out rfl (by simp [Value.oneCell']) dcd dcd (Nat.zero_le _) ?_)
   intro r6 w6 happ;obtain ⟨o1,f6⟩:=HRO.out.appended happ;obtain ⟨A6,c6,hf6,-⟩:=o1.form;subst hf6;obtain ⟨cb,hcb,_⟩:=o1.head dcd;subst hcb;have f7:Fr No wr w6:=(aj wr (.cells [Value.slice (some ⟨rb,0,none⟩) 2 c_].toArray TRow)).ah f6;have hb6:=HB5.out.fr f7 id;clear y11 z11;obtain ⟨_,y11,_⟩:=nU hb6;have z11:=hb6.frozen 11;have hg6:=hb6.lt;obtain ⟨HO1,F7,HB6⟩:=bC o1 f7 hb6;clear happ o1 f6 f7 hb6
   go_wp2_with fail
   have hszA:(wr.alloc (.cells [Value.slice (some ⟨rb,0,none⟩) 2 c_].toArray TRow)).heap.size=wr.heap.size+1:=by simp
   have f8:Fr (fun i=>i=g5) w6 (w6.setCell ⟨g5,11,none⟩ (.slice (some ⟨cb,0,none⟩) 1 c6)):=(Fr.refl (fun i=>i=g5) w6).setCell (p:=⟨g5,11,none⟩) (.inl rfl) _;have hb8:=HB6.out.aC 11 (.slice (some ⟨cb,0,none⟩) 1 c6);have hfin:aoj v1 g5 (fun cs=>∃cb cc_,cs= #[.int .i64 2,.slice (some ⟨bz,0,none⟩) 2 cz,.slice (some ⟨bc,0,none⟩) 2 cc,.slice (some ⟨bt,0,none⟩) 1 ct,.slice (some ⟨bv,0,none⟩) 1 cv,.slice (some ⟨br,0,none⟩) 1 cr,.slice (some ⟨bo,0,none⟩) 1 co,.int .i64 1,.int .i64 20,.int .i64 0,.pointer (some ⟨p,0,none⟩),.slice (some ⟨cb,0,none⟩) 1 cc_,.slice none 0 0,.slice none 0 0,.int .i64 0]) (w6.setCell ⟨g5,11,none⟩ (.slice (some ⟨cb,0,none⟩) 1 c6)):=
    ⟨x0,x1,b,rb,c_,cb,c6,_,⟨cb,c6,rfl⟩,rfl,hb2,by have:=F7.out.size;have:=f8.size;omega,(HCP.out.fr F7.out (fun _ _ h=>h)).fr f8 (fun i hi h=>by omega),(zG.out.au F7.out).frF f8 (fun i hi h=>by omega),(HO1.out.mono (G:=fun i=>b≤i) fun i hi=>hi.elim (fun h=>h.elim) fun h=>by omega).frF f8 (fun i hi h=>by omega),Blk.cv hb8 (by simp),((HF.out.ah F7.out).mono fun _ h=>h.elim).trans f8 fun i hi=> .inl hi⟩
   have eu:=O hfin;clear hfin f8 hb8 hszA
   go_roundw
   case rel=>exact .inr ⟨rfl,eu.out⟩
   case measure=>simp [intOf]
 ·obtain ⟨x0,x1,b,rb,rc,cb,cc1,cs,⟨cb',cc',hcs⟩,h11,hb1,hb2,hcp,hr2,hr1,hblk,hf⟩:=hd
  subst hcs
  simp at h11
  obtain ⟨rfl,rfl⟩:=h11;have f9:Fr No v wr:=FV1.out.aD hf fun i hi=>by omega
  have hnone:∀b,v.heap.size≤b→lab b=none:=fun b hb=>by
   cases hj:lab b with
   |none=>rfl
   |some j=>have:=HPL.out.q.lt b j hj;omega
  have hlo:=HLO.out;have as4:vQ wr ⟨g5,p,z,pv,⟨bz,cz,bc,cc,bt,ct,bv,cv,br,cr,bo,co⟩,c2,cb',cc',rb,rc,x0,x1⟩ lab (fun i=>v1.heap.size≤i∧i<b) qs0 0 s2 0 (cs0 0 0) (.slice none 0 0) 0:=
   ⟨⟨hnone _ hv5,by first|omega|(simp only;omega)⟩,hblk,HPL.out.au f9,⟨(HPL.out.c.strict.au f9).mono fun i hi=>⟨hi.1.1,hi.1.2,by first|omega|(simp only;omega),by first|omega|(simp only;omega)⟩,(HPL.out.s.strict.au f9).mono fun i hi=>⟨hi.1.1,hi.1.2,by first|omega|(simp only;omega),by first|omega|(simp only;omega)⟩⟩,
    (HC0.out.au (FB.out.ah (F0.out.ah f9))).mono fun i hi=>⟨by
     cases hj:lab i with
     |none=>rfl
     |some j=>have:=hlo i j hj;omega,by first|omega|(simp only;omega),by first|omega|(simp only;omega),by first|omega|(simp only;omega)⟩,
    hr1.mono fun i hi=>⟨hnone i oy,by first|omega|(simp only;omega),by first|omega|(simp only;omega),by first|omega|(simp only;omega)⟩,
    hr2.mono fun i hi=>⟨hnone i oy,by first|omega|(simp only;omega),by first|omega|(simp only;omega),by first|omega|(simp only;omega)⟩,aA.nil _ _ _ _,hcp,fun i hi=>⟨hnone i oy,by first|omega|(simp only;omega),by first|omega|(simp only;omega)⟩⟩
  obtain ⟨q0_,q1_,q2_,q3_,q4_,q5_,q6_,q7_,q8_,q9_⟩:=HAL.out _ (F0.out.ah f9);obtain ⟨F9,HS⟩:=aN f9 as4;have hgr:g1<wr.heap.size:=nll fP (F0.out.ah f9).size;clear hcp hr2 hr1 hblk hf f9 as4 hlo hnone
  go_wp2_with fail
  refine (yB HS.out.pl).mono ?_;rintro e w5 ⟨⟨t1,t2,t3,t4⟩,rfl,hss,f5⟩;clear q0_ q1_ q2_ q3_ q4_ q5_ q6_ q7_ q8_ q9_;obtain ⟨q0_,q1_,q2_,q3_,q4_,q5_,q6_,q7_,q8_,q9_⟩:=HAL.out _ ((F0.out.ah F9.out).ah f5);have hgr5:g1<w5.heap.size:=nll hgr f5.size;have F5:=O f5;clear hss f5
  go_wp2_with fail
  go_ret
  exact ⟨_,lab,s2,v1.heap.size,b,rfl,HS.out.au (F5.out.alloc _),⟨fun b j hb=>Nat.le_trans hsB (HLO.out b j hb),by (try simp only);omega,by (try simp only);omega,by omega⟩,(((FB.out.ah F0.out).ah F9.out).ah F5.out).alloc _⟩
end
section
set_option linter.unusedSimpArgs false
variable {w w' :World}{F G:Nat→Prop}{lab lab' :Nat→Option Nat}{p z n m k:Nat}{pv:Nat→Nat}{q:Qs}{c:Cx}{s:Sx}
structure nX (w:World) (M:SM) (lab:Nat→Option Nat) (G:Nat→Prop) (q:Qs) (n:Nat) (s:Sx) (k:Nat) (K:Kp) (vg:Value) (m:Nat):Prop where
 lg:lab M.g=none∧M.g≠M.p∧lab M.p=none
 blk:Blk w M.g ao4 (smC M.c0 M.p M.cb M.cc vg)
 pb:Blk w M.p an0 (plC M.c M.z s k)
 pq:QAt w lab M.z M.pv q n
 c0:eB w (fun b=>lab b=none∧b≠M.p∧b≠M.g∧¬G b) M.c0
 r1:aA w (fun b=>lab b=none∧b≠M.p∧b≠M.g∧¬G b) TRow 1 (.slice (some ⟨M.cb,0,none⟩) 1 M.cc) 1 [.slice (some ⟨M.rb,0,none⟩) 2 M.rc]
 r2:aA w (fun b=>lab b=none∧b≠M.p∧b≠M.g∧¬G b) vP 1 (.slice (some ⟨M.rb,0,none⟩) 2 M.rc) 2 [.pointer (some ⟨M.x0,0,none⟩),.pointer (some ⟨M.x1,0,none⟩)]
 vg:aA w (fun b=>lab b=none∧b≠M.p∧b≠M.g∧¬G b) ig 7 vg m (if m=0 then [] else spL)
 cp:aM w G M.x0 K
 gg:∀b,G b→lab b=none∧b≠M.p∧b≠M.g
theorem vQ.e {M:SM}{K:Kp}{vg:Value}(h:vQ w M lab G q n s k K vg m):nX w M lab G q n s k K vg m:=⟨⟨h.lg.1,h.lg.2,h.pl.np⟩,h.blk,h.pl.blk,h.pl.q,h.c0,h.r1,h.r2,h.vg,h.cp,h.gg⟩
theorem nX.au {M:SM}{K:Kp}{vg:Value}(h:nX w M lab G q n s k K vg m)(hf:Fr No w w'):nX w' M lab G q n s k K vg m:=
 ⟨h.lg,h.blk.fr hf id,h.pb.fr hf id,h.pq.au hf,h.c0.au hf,h.r1.au hf,h.r2.au hf,h.vg.au hf,h.cp.au hf,h.gg⟩
theorem aA.jX {e:TypeId}{size n g:Nat}{v:Value}{xs:List Value}(h:aA w (fun b=>lab b=none∧b≠p∧b≠g∧¬G b) e size v n xs)(hl:∀b,b<w.heap.size→lab' b=lab b)(hf:Fr (fun b=>lab b≠none∨b=p) w w'):aA w' (fun b=>lab' b=none∧b≠p∧b≠g∧¬G b) e size v n xs:=
 have k:aA w (fun b=>lab' b=none∧b≠p∧b≠g∧¬G b) e size v n xs:=⟨h.1,fun g hg=>⟨(hl g (h.lt g hg)).trans (h.2 g hg).1,(h.2 g hg).2⟩⟩
 k.fr' hf fun g hg hn=>hn.elim (fun hn=>hn (h.2 g hg).1) (h.2 g hg).2.1
theorem nX.prop {M:SM}{K:Kp}{vg:Value}{q' :Qs}{n' k' :Nat}(h:nX w M lab G q n s k K vg m)(hp:agn w M.p M.z lab M.pv q' n' M.c k' w'):
  ∃lab' s',jC w' M.p M.z lab' M.pv q' n' M.c s' k'∧nX w' M lab' G q' n' s' k' K vg m∧(∀b,b<w.heap.size→lab' b=lab b)∧Fr (fun b=>lab b≠none∨b=M.p) w w' :=by
 obtain ⟨l,s',a,e,f⟩:=hp;exact ⟨l,s',a,⟨⟨(e _ h.blk.lt).trans h.lg.1,h.lg.2.1,a.np⟩,h.blk.fr f (fun hn=>hn.elim (fun hn=>hn h.lg.1) h.lg.2.1),a.blk,a.q,⟨h.c0.z.jX e f,h.c0.k.jX e f,h.c0.t.jX e f,h.c0.v.jX e f,h.c0.r.jX e f,h.c0.o.jX e f⟩,h.r1.jX e f,h.r2.jX e f,h.vg.jX e f,
  h.cp.fr f (fun i hi hn=>hn.elim (fun hn=>hn (h.gg i hi).1) (h.gg i hi).2.1),fun b hb=>⟨(e b (h.cp.lt b hb)).trans (h.gg b hb).1,(h.gg b hb).2⟩⟩,e,f⟩
theorem nX.kept {M:SM}{K:Kp}{V:World}{b cc:Nat}(h:nX w M lab G q n s k K (.slice none 0 0) 0)(f:Fr No w V)(ho:aA V (fun i=>w.heap.size≤i) ig 7 (.slice (some ⟨b,0,none⟩) 1 cc) 1 spL):
  nX (V.setCell ⟨M.g,12,none⟩ (.slice (some ⟨b,0,none⟩) 1 cc)) M lab G q n s k K (.slice (some ⟨b,0,none⟩) 1 cc) 1∧Fr (fun i=>i=M.g) w (V.setCell ⟨M.g,12,none⟩ (.slice (some ⟨b,0,none⟩) 1 cc)):=by
 have f8:Fr (fun i=>i=M.g) V (V.setCell ⟨M.g,12,none⟩ (.slice (some ⟨b,0,none⟩) 1 cc)):=(Fr.refl (fun i=>i=M.g) V).setCell (p:=⟨M.g,12,none⟩) (.inl rfl) _;have h2:=h.au f;have hgl:=h.blk.lt;have hb8:=h2.blk.aC 12 (.slice (some ⟨b,0,none⟩) 1 cc);have hpl:=h.pb.lt;refine ⟨⟨h.lg,Blk.cv hb8 (by simp),h2.pb.fr f8 (fun e=>h.lg.2.1 e.symm),h2.pq.fr f8 (fun i hi=>by have hi:i=M.g:=hi;rw [hi];exact h.lg.1),h2.c0.frF f8 (fun i hi e=>hi.2.2.1 e),h2.r1.frF f8 (fun i hi e=>hi.2.2.1 e),h2.r2.frF f8 (fun i hi e=>hi.2.2.1 e),?_,h2.cp.fr f8 (fun i hi e=>(h.gg i hi).2.2 e),h.gg⟩,(f.mono fun _ h=>h.elim).trans f8 fun i hi=> .inl hi⟩;refine (ho.mono fun i hi=>⟨?_,by omega,by omega,fun hg=>by have:=h.cp.lt i hg;omega⟩).frF f8 (fun i hi e=>hi.2.2.1 e)
 cases hj:lab i with
 |none=>rfl
 |some j=>have:=h.pq.lt i j hj;omega
theorem qX {M:SM}{K:Kp}{vg:Value}{V:World}{q' :Qs}{n' k' :Nat}(h:nX w M lab G q n s k K vg m)(f:Fr No w V)(hp:agn V M.p M.z lab M.pv q' n' M.c k' w'):
  ∃lab' s',jC w' M.p M.z lab' M.pv q' n' M.c s' k'∧nX w' M lab' G q' n' s' k' K vg m∧(∀b,b<w.heap.size→lab' b=lab b)∧Fr (fun b=>lab b≠none∨b=M.p) w w' :=by
 obtain ⟨l,s',a,e,e2,g⟩:=(h.au f).prop hp;exact ⟨l,s',a,e,fun b hb=>e2 b (nll hb f.size),(f.mono fun _ h=>h.elim).trans g fun i hi=> .inl hi⟩
set_option maxHeartbeats 8000000 in
theorem yg {M:SM}{K:Kp}(h:nX w M lab G qs0 n s 0 K (.slice none 0 0) 0)(hp:jC w M.p M.z lab M.pv qs0 n M.c s 0)(hn:n≤2000000):Calls Tryz.prog 32 #[.pointer (some ⟨M.g,0,none⟩),.agg #[.int .i64 1,.int .i64 0,.int .i64 0,.int .i64 0,.int .i64 1,.int .i64 0,.int .i64 0,.int .i64 0,.int .i64 0]] w fun e w' =>e= .returned (.bool true)∧∃lab' s',jC w' M.p M.z lab' M.pv qs2 (n+1400000) M.c s' 1∧nX w' M lab' G qs2 (n+1400000) s' 1 K (.slice none 0 0) 0∧(∀b,b<w.heap.size→lab' b=lab b)∧Fr (fun b=>lab b≠none∨b=M.p) w w' :=by
 obtain ⟨M_g,M_p,M_z,ars,au0,M_c,adp,aky,ado,akx,agp,arq⟩:=M;simp only at h hp ⊢;obtain ⟨g,hg_⟩:∃g,g=w.heap.size:=⟨_,rfl⟩;obtain ⟨w1,hw1⟩:∃W,W=w.alloc (.cells #[.int .i64 1,.int .i64 0,.int .i64 0,.int .i64 0,.int .i64 1,.int .i64 0,.int .i64 0,.int .i64 0,.int .i64 0] iT):=⟨_,rfl⟩;have f0:Fr No w w1:=by rw [hw1];exact aj _ _
 have gb:Blk w1 g iT #[.int .i64 1,.int .i64 0,.int .i64 0,.int .i64 0,.int .i64 1,.int .i64 0,.int .i64 0,.int .i64 0,.int .i64 0]:=by rw [hw1,hg_];exact Blk.new _ _ _
 have hgw:=h.blk.lt;have hgp:M_g<g:=by simp only at hgw;omega
 have hpw:=h.pb.lt;have hlg:lab g=none:=by
  cases hj:lab g with
  |none=>rfl
  |some j=>have:=h.pq.lt g j hj;omega
 have hlm:lab M_g=none∧M_g≠M_p:=⟨h.lg.1,h.lg.2.1⟩;have hgq:g≠M_p:=by simp only at hpw;omega
 have hcl:∀V,Fr (fun b=>lab b≠none∨b=M_p) w1 V→V.cell? ⟨M_g,10,none⟩=some (.pointer (some ⟨M_p,0,none⟩))∧V.cell? ⟨g,0,none⟩=some (.int .i64 1)∧V.cell? ⟨g,1,none⟩=some (.int .i64 0)∧V.cell? ⟨g,2,none⟩=some (.int .i64 0)∧V.cell? ⟨g,3,none⟩=some (.int .i64 0)∧V.cell? ⟨g,4,none⟩=some (.int .i64 1)∧V.cell? ⟨g,5,none⟩=some (.int .i64 0)∧V.cell? ⟨g,6,none⟩=some (.int .i64 0)∧V.cell? ⟨g,7,none⟩=some (.int .i64 0)∧V.cell? ⟨g,8,none⟩=some (.int .i64 0):=fun V hV=>by
  obtain ⟨x0,x1,x2,x3,x4,x5,x6,x7,x8⟩:=zo (gb.fr hV (fun hn=>hn.elim (fun hn=>hn hlg) hgq));exact ⟨(nU ((h.blk.fr f0 id).fr hV (fun hn=>hn.elim (fun hn=>hn hlm.1) hlm.2))).1,x0,x1,x2,x3,x4,x5,x6,x7,x8⟩
 have hpr:=fun V (hV:Fr No w1 V)=>(rV ((hp.au f0).au hV) hn).mono fun e w' h=>h;obtain ⟨H,F0,HW,HG,GB,HCL,HPR⟩:=jo h f0 hw1 hg_ gb hcl hpr;obtain ⟨y0,x0,x1,x2,x3,x4,x5,x6,x7,x8⟩:=hcl _ (Fr.refl _ _);have hs1:w.heap.size≤w1.heap.size:=f0.size;clear h hp gb f0 hw1 hg_ hcl hpr
 go_in
 go_upto_region 1 with fail
 rw [←HW.out,←HG.out];clear HW HG
 go_region_held3 (fun V=>V.cell? ⟨M_g,10,none⟩=some (.pointer (some ⟨M_p,0,none⟩))∧V.cell? ⟨g,0,none⟩=some (.int .i64 1)∧V.cell? ⟨g,1,none⟩=some (.int .i64 0)∧V.cell? ⟨g,2,none⟩=some (.int .i64 0)∧V.cell? ⟨g,3,none⟩=some (.int .i64 0)∧V.cell? ⟨g,4,none⟩=some (.int .i64 1)∧V.cell? ⟨g,5,none⟩=some (.int .i64 0)∧V.cell? ⟨g,6,none⟩=some (.int .i64 0)∧V.cell? ⟨g,7,none⟩=some (.int .i64 0)∧V.cell? ⟨g,8,none⟩=some (.int .i64 0)) ((refine HCL.out _ ?_;exact (by with_reducible ((repeat (first|assumption|exact Fr.refl _ _|refine Fr.alloc ?_ _|refine Fr.drew ?_|refine Fr.drewN ?_ _));done)))) (first
  |(go_at_call 69;refine (HPR.out _ (by with_reducible ((repeat (first|assumption|exact Fr.refl _ _|refine Fr.alloc ?_ _|refine Fr.drew ?_|refine Fr.drewN ?_ _));done))).mono ?_;rintro e w4 ⟨rfl,hto⟩;have f1:Fr No w w1.drew:=F0.out.drew;have f4:Fr (fun b=>lab b≠none∨b=M_p) w1 w4:=((Fr.refl _ w1).drew).trans hto.choose_spec.choose_spec.2.2 fun i hi=> .inl hi;have HTO:=O hto;clear hto))
 all_goals clear y0 x0 x1 x2 x3 x4 x5 x6 x7 x8
 all_goals obtain ⟨y0,x0,x1,x2,x3,x4,x5,x6,x7,x8⟩:=HCL.out _ f4
 all_goals go_wp2_with fail
 all_goals go_ret
 all_goals exact ⟨rfl,qX H.out f1 HTO.out⟩
set_option maxHeartbeats 8000000 in
theorem yc {M:SM}{K:Kp}(h:nX w M lab G qs2 n s 1 K (.slice none 0 0) 0)(hp:jC w M.p M.z lab M.pv qs2 n M.c s 1)(hn:n≤2000000):Calls Tryz.prog 32 #[.pointer (some ⟨M.g,0,none⟩),.agg #[.int .i64 2,.int .i64 0,.int .i64 0,.int .i64 0,.int .i64 (-1),.int .i64 1,.int .i64 0,.int .i64 20,.int .i64 0]] w fun e w' =>e= .returned (.bool true)∧∃lab' s' b cc,nX w' M lab' G qs3 (n+700000) s' 2 K (.slice (some ⟨b,0,none⟩) 1 cc) 1∧(∀b,b<w.heap.size→lab' b=lab b)∧Fr (fun b=>lab b≠none∨b=M.p∨b=M.g) w w' :=by
 obtain ⟨M_g,M_p,M_z,ars,au0,M_c,adp,aky,ado,akx,agp,arq⟩:=M;simp only at h hp ⊢;obtain ⟨g,hg_⟩:∃g,g=w.heap.size:=⟨_,rfl⟩;obtain ⟨w1,hw1⟩:∃W,W=w.alloc (.cells #[.int .i64 2,.int .i64 0,.int .i64 0,.int .i64 0,.int .i64 (-1),.int .i64 1,.int .i64 0,.int .i64 20,.int .i64 0] iT):=⟨_,rfl⟩;have f0:Fr No w w1:=by rw [hw1];exact aj _ _
 have gb:Blk w1 g iT #[.int .i64 2,.int .i64 0,.int .i64 0,.int .i64 0,.int .i64 (-1),.int .i64 1,.int .i64 0,.int .i64 20,.int .i64 0]:=by rw [hw1,hg_];exact Blk.new _ _ _
 have hgw:=h.blk.lt;have hgp:M_g<g:=by simp only at hgw;omega
 have hpw:=h.pb.lt;have hlg:lab g=none:=by
  cases hj:lab g with
  |none=>rfl
  |some j=>have:=h.pq.lt g j hj;omega
 have hlm:lab M_g=none∧M_g≠M_p:=⟨h.lg.1,h.lg.2.1⟩;have hgq:g≠M_p:=by simp only at hpw;omega
 have hcl:∀V,Fr (fun b=>lab b≠none∨b=M_p) w1 V→V.cell? ⟨M_g,10,none⟩=some (.pointer (some ⟨M_p,0,none⟩))∧V.cell? ⟨g,0,none⟩=some (.int .i64 2)∧V.cell? ⟨g,1,none⟩=some (.int .i64 0)∧V.cell? ⟨g,2,none⟩=some (.int .i64 0)∧V.cell? ⟨g,3,none⟩=some (.int .i64 0)∧V.cell? ⟨g,4,none⟩=some (.int .i64 (-1))∧V.cell? ⟨g,5,none⟩=some (.int .i64 1)∧V.cell? ⟨g,6,none⟩=some (.int .i64 0)∧V.cell? ⟨g,7,none⟩=some (.int .i64 20)∧V.cell? ⟨g,8,none⟩=some (.int .i64 0):=fun V hV=>by
  obtain ⟨x0,x1,x2,x3,x4,x5,x6,x7,x8⟩:=zo (gb.fr hV (fun hn=>hn.elim (fun hn=>hn hlg) hgq));exact ⟨(nU ((h.blk.fr f0 id).fr hV (fun hn=>hn.elim (fun hn=>hn hlm.1) hlm.2))).1,x0,x1,x2,x3,x4,x5,x6,x7,x8⟩
 have hpr:=fun V (hV:Fr No w1 V)=>(rU ((hp.au f0).au hV) hn).mono fun e w' h=>h;obtain ⟨H,F0,HW,HG,GB,HCL,HPR⟩:=jo h f0 hw1 hg_ gb hcl hpr;obtain ⟨y0,x0,x1,x2,x3,x4,x5,x6,x7,x8⟩:=hcl _ (Fr.refl _ _);have hs1:w.heap.size≤w1.heap.size:=f0.size;clear h hp gb f0 hw1 hg_ hcl hpr
 go_in
 go_upto_region 1 with fail
 rw [←HW.out,←HG.out];clear HW HG
 go_region_held3 (fun V=>V.cell? ⟨M_g,10,none⟩=some (.pointer (some ⟨M_p,0,none⟩))∧V.cell? ⟨g,0,none⟩=some (.int .i64 2)∧V.cell? ⟨g,1,none⟩=some (.int .i64 0)∧V.cell? ⟨g,2,none⟩=some (.int .i64 0)∧V.cell? ⟨g,3,none⟩=some (.int .i64 0)∧V.cell? ⟨g,4,none⟩=some (.int .i64 (-1))∧V.cell? ⟨g,5,none⟩=some (.int .i64 1)∧V.cell? ⟨g,6,none⟩=some (.int .i64 0)∧V.cell? ⟨g,7,none⟩=some (.int .i64 20)∧V.cell? ⟨g,8,none⟩=some (.int .i64 0)) ((refine HCL.out _ ?_;exact (by with_reducible ((repeat (first|assumption|exact Fr.refl _ _|refine Fr.alloc ?_ _|refine Fr.drew ?_|refine Fr.drewN ?_ _));done)))) (first
  |(go_at_call 69;refine (HPR.out _ (by with_reducible ((repeat (first|assumption|exact Fr.refl _ _|refine Fr.alloc ?_ _|refine Fr.drew ?_|refine Fr.drewN ?_ _));done))).mono ?_;rintro e w4 ⟨rfl,hto⟩;have f1:Fr No w w1.drew:=F0.out.drew;have f4:Fr (fun b=>lab b≠none∨b=M_p) w1 w4:=((Fr.refl _ w1).drew).trans hto.choose_spec.choose_spec.2.2 fun i hi=> .inl hi;have HTO:=O hto;clear hto))
 all_goals clear y0 x0 x1 x2 x3 x4 x5 x6 x7 x8
 all_goals obtain ⟨l2,s2,hpl,hse,hee,hff⟩:=qX H.out f1 HTO.out
 all_goals have hb4:=GB.out.fr f4 (fun hn=>hn.elim (fun hn=>hn hlg) hgq)
 all_goals have hk:=fun V (hV:Fr No w4 V) b cc ho=>(hse.kept (b:=b) (cc:=cc) hV ho)
 all_goals have y5:w4.cell? ⟨M_g,12,none⟩=some (.slice none 0 0):=(nU hse.blk).2.2
 all_goals have z5:=hse.blk.frozen 12
 all_goals have hml:=hse.blk.lt
 all_goals have H4:=O hse
 all_goals have HB4:=O hb4
 all_goals have HK:=O hk
 all_goals have HEE:=O hee
 all_goals have HFF:=O hff
 all_goals obtain ⟨y0,x0,x1,x2,x3,x4,x5,x6,x7,x8⟩:=HCL.out _ f4
 all_goals clear hpl hse hee hff hb4 hk HTO HPR HCL H
 all_goals simp only at z5 hml
 all_goals go_upto_region 5 with fail
 all_goals obtain ⟨i1,u1,hi1,hu0,hu,hu1,hu2⟩:=dY nY
 all_goals have hbn:∀V,Fr No w4 V→V.cell? ⟨g,2,none⟩=some (.int .i64 0)∧V.cell? ⟨g,3,none⟩=some (.int .i64 0)∧V.cell? ⟨g,5,none⟩=some (.int .i64 1)∧V.cell? ⟨g,8,none⟩=some (.int .i64 0)∧V.cell? ⟨g,6,none⟩=some (.int .i64 0)∧V.cell? ⟨g,7,none⟩=some (.int .i64 20):=fun V hV=>(by obtain ⟨u0,u1,u2,u3,u4,u5,u6,u7,u8⟩:=zo (HB4.out.fr hV id);exact ⟨u2,u3,u5,u8,u6,u7⟩)
 all_goals have HBN:=O hbn
 all_goals have hgM:g≠M_g:=by omega
 all_goals clear hbn
 all_goals skip
 refine wp_region_held_drew (S:=fun V=>V.cell? ⟨g,2,none⟩=some (.int .i64 0)∧V.cell? ⟨g,3,none⟩=some (.int .i64 0)∧V.cell? ⟨g,5,none⟩=some (.int .i64 1)∧V.cell? ⟨g,8,none⟩=some (.int .i64 0)∧V.cell? ⟨g,6,none⟩=some (.int .i64 0)∧V.cell? ⟨g,7,none⟩=some (.int .i64 20)) (by kernel_rfl) (HBN.out _ (by exact (by with_reducible ((repeat (first|assumption|exact Fr.refl _ _|refine Fr.alloc ?_ _|refine Fr.drew ?_|refine Fr.drewN ?_ _));done)))) (fun hHeld=> ?_);refine wpAnyH_take (i:=0) (v:= ?_) rfl (by kernel_rfl) (by kernel_rfl) (by kernel_rfl) (fun _ _ _ h=>h) (Or.inl ⟨by rfl,?_⟩) (by assumption) ?_
 rotate_left
 ·(intro w hSw;(try dsimp only at hSw);go_simp)<;>with_reducible rfl
 simp only [Act.put,List.setIfInBounds_toArray,List.set_cons_zero,List.set_cons_succ,List.getElem_toArray,List.getElem_cons_zero];refine wpAnyH_take (i:=1) (v:= ?_) rfl (by kernel_rfl) (by kernel_rfl) (by kernel_rfl) (fun _ _ _ h=>h) (Or.inl ⟨by rfl,?_⟩) (by assumption) ?_
 rotate_left
 ·(intro w hSw;(try dsimp only at hSw);go_simp)<;>with_reducible rfl
 simp only [Act.put,J];refine wpAnyH_take (i:=2) (v:= ?_) rfl (by kernel_rfl) (by kernel_rfl) (by kernel_rfl) (fun _ _ _ h=>h) (Or.inl ⟨by rfl,?_⟩) (by assumption) ?_
 rotate_left
 ·(intro w hSw;(try dsimp only at hSw);go_simp)<;>with_reducible rfl
 simp only [Act.put,J];refine wpAnyH_take (i:=3) (v:= ?_) rfl (by kernel_rfl) (by kernel_rfl) (by kernel_rfl) (fun _ _ _ h=>h) (Or.inl ⟨by rfl,?_⟩) (by assumption) ?_
 rotate_left
 ·(intro w hSw;(try dsimp only at hSw);go_simp)<;>with_reducible rfl
 simp only [Act.put,J];refine wpAnyH_take (i:=5) (v:= ?_) rfl (by kernel_rfl) (by kernel_rfl) (by kernel_rfl) (fun _ _ _ h=>h) (Or.inl ⟨by rfl,?_⟩) (by assumption) ?_
 rotate_left
 ·(intro w hSw;(try dsimp only at hSw);go_simp)<;>with_reducible rfl
 simp only [Act.put,J];refine wpAnyH_take (i:=6) (v:= ?_) rfl (by kernel_rfl) (by kernel_rfl) (by kernel_rfl) (fun _ _ _ h=>h) (Or.inl ⟨by rfl,?_⟩) (by assumption) ?_
 rotate_left
 ·(intro w hSw;(try dsimp only at hSw);go_simp)<;>with_reducible rfl
 simp only [Act.put,J];refine wpAnyH_take (i:=7) (v:= ?_) rfl (by kernel_rfl) (by kernel_rfl) (by kernel_rfl) (fun _ _ _ h=>h) (Or.inl ⟨by rfl,?_⟩) (by assumption) ?_
 rotate_left
 ·(intro w hSw;(try dsimp only at hSw);go_simp)<;>with_reducible rfl
 simp only [Act.put,J];refine wpAnyH_take (i:=8) (v:= ?_) rfl (by kernel_rfl) (by kernel_rfl) (by kernel_rfl) (fun _ _ _ h=>h) (Or.inl ⟨by rfl,?_⟩) (by assumption) ?_
 rotate_left
 ·(intro w hSw;(try dsimp only at hSw);go_simp)<;>with_reducible rfl
 simp only [Act.put,J];refine wpAnyH_take (i:=9) (v:= ?_) rfl (by kernel_rfl) (by kernel_rfl) (by kernel_rfl) (fun _ _ _ h=>h) (Or.inl ⟨by rfl,?_⟩) (by assumption) ?_
 rotate_left
 ·(intro w hSw;(try dsimp only at hSw);go_simp)<;>with_reducible rfl
 simp only [Act.put,J];refine wpAnyH_take (i:=10) (v:= ?_) rfl (by kernel_rfl) (by kernel_rfl) (by kernel_rfl) (fun _ _ _ h=>h) (Or.inl ⟨by rfl,?_⟩) (by assumption) ?_
 rotate_left
 ·(intro w hSw;(try dsimp only at hSw);go_simp)<;>with_reducible rfl
 simp only [Act.put,J];refine wpAnyH_take (i:=11) (v:= ?_) rfl (by kernel_rfl) (by kernel_rfl) (by kernel_rfl) (fun _ _ _ h=>h) (Or.inl ⟨by rfl,?_⟩) (by assumption) ?_
 rotate_left
 ·(intro w hSw;(try dsimp only at hSw);go_simp)<;>with_reducible rfl
 simp only [Act.put,J];refine wpAnyH_take (i:=12) (v:= ?_) rfl (by kernel_rfl) (by kernel_rfl) (by kernel_rfl) (fun _ _ _ h=>h) (Or.inl ⟨by rfl,?_⟩) (by assumption) ?_
 rotate_left
 ·(intro w hSw;(try dsimp only at hSw);go_simp)<;>with_reducible rfl
 simp only [Act.put,J];refine wpAnyH_take (i:=13) (v:= ?_) rfl (by kernel_rfl) (by kernel_rfl) (by kernel_rfl) (fun _ _ _ h=>h) (Or.inl ⟨by rfl,?_⟩) (by assumption) ?_
 rotate_left
 ·(intro w hSw;(try dsimp only at hSw);go_simp)<;>with_reducible rfl
 simp only [Act.put,J];refine wpAnyH_take (i:=14) (v:= ?_) rfl (by kernel_rfl) (by kernel_rfl) (by kernel_rfl) (fun _ _ _ h=>h) (Or.inl ⟨by rfl,?_⟩) (by assumption) ?_
 rotate_left
 ·(intro w hSw;(try dsimp only at hSw);go_simp)<;>with_reducible rfl
 simp only [Act.put,J];refine wpAnyH_take (i:=15) (v:= ?_) rfl (by kernel_rfl) (by kernel_rfl) (by kernel_rfl) (fun _ _ _ h=>h) (Or.inl ⟨by rfl,?_⟩) (by assumption) ?_
 rotate_left
 ·(intro w hSw;(try dsimp only at hSw);go_simp)<;>with_reducible rfl
 simp only [Act.put,J];refine wpAnyH_take (i:=16) (v:= ?_) rfl (by kernel_rfl) (by kernel_rfl) (by kernel_rfl) (fun _ _ _ h=>h) (Or.inl ⟨by rfl,?_⟩) (by assumption) ?_
 rotate_left
 ·(intro w hSw;(try dsimp only at hSw);go_simp)<;>with_reducible rfl
 simp only [Act.put,J];refine wpAnyH_take (i:=17) (v:= ?_) rfl (by kernel_rfl) (by kernel_rfl) (by kernel_rfl) (fun _ _ _ h=>h) (Or.inl ⟨by rfl,?_⟩) (by assumption) ?_
 rotate_left
 ·(intro w hSw;(try dsimp only at hSw);go_simp)<;>with_reducible rfl
 simp only [Act.put,J];refine wpAnyH_take (i:=18) (v:= ?_) rfl (by kernel_rfl) (by kernel_rfl) (by kernel_rfl) (fun _ _ _ h=>h) (Or.inl ⟨by rfl,?_⟩) (by assumption) ?_
 rotate_left
 ·(intro w hSw;(try dsimp only at hSw);go_simp)<;>with_reducible rfl
 simp only [Act.put,J];refine wpAnyH_take (i:=19) (v:= ?_) rfl (by kernel_rfl) (by kernel_rfl) (by kernel_rfl) (fun _ _ _ h=>h) (Or.inl ⟨by rfl,?_⟩) (by assumption) ?_
 rotate_left
 ·(intro w hSw;(try dsimp only at hSw);go_simp)<;>with_reducible rfl
 simp only [Act.put,J];refine wpAnyH_ready (rs:=[4,20]) (by kernel_rfl) (by simp) (AllReadyH.cons rfl (fun K hK=> ?_) (AllReadyH.cons rfl (fun K hK=> ?_) AllReadyH.nil))
 ·go_simp
  refine hK.out _ _ (HBN.out _ (by exact (by with_reducible ((repeat (first|assumption|exact Fr.refl _ _|refine Fr.alloc ?_ _|refine Fr.drew ?_|refine Fr.drewN ?_ _));done)))) (fun hHeld=> ?_);clear hK K
  try simp only [Act.put,J]
  refine wpAnyH_ready (rs:=[20]) (by kernel_rfl) (by simp) (AllReadyH.cons rfl (fun K hK=> ?_) AllReadyH.nil)
  go_simp
  refine hK.out _ _ (HBN.out _ (by exact (by with_reducible ((repeat (first|assumption|exact Fr.refl _ _|refine Fr.alloc ?_ _|refine Fr.drew ?_|refine Fr.drewN ?_ _));done)))) (fun hHeld=> ?_);clear hK K
  try simp only [Act.put,J]
  refine wpAnyH_ready (rs:=[21]) (by kernel_rfl) (by simp) (AllReadyH.cons rfl (fun K hK=> ?_) AllReadyH.nil)
  (refine aI _ (by rfl) (.tmp 25) (.tmp 41) _ (by rfl) 0 ig i1 u1 7 56 Tryz.underlying109 hi1 hu0 hu1 hu2 hu dcd (.slice none 0 0) 0 [] (by rfl) (aA.nil _ No _ _).1 (w4.heap.size+1) (some ⟨w4.heap.size,0,none⟩) 1 1 spL (by rfl) (fun h=>by cases h) (Rd.new w4.drew _ ig rfl) rfl (by simp [Value.oneCell']) dcd dcd (Nat.zero_le _) ?_;intro v1 w6 happ;have hro:aA ((w4.drew).alloc (.cells spL.toArray ig)) No ig 7 (.slice none 0 0) 0 []:=aA.nil _ _ _ _;obtain ⟨o1,f6⟩:=hro.appended happ;obtain ⟨A6,c6,rfl,-⟩:=o1.form;obtain ⟨b6,rfl,_⟩:=o1.head dcd;have f7:Fr No w4 w6:=(((Fr.refl No w4).drew).alloc _).ah f6;have yy:=(nU ((H4.out.au f7).blk)).2.2;have J:=((H4.out.au f7).blk).frozen 12;have hszz:(w4.drew.alloc (.cells spL.toArray ig)).heap.size=w4.heap.size+1:=(by simp);have hkk:=HK.out _ f7 b6 c6 (o1.mono fun i hi=>hi.elim (fun h=>h.elim) fun h=>by omega);have HKK:=O hkk;have hks:(w6.setCell ⟨M_g,12,none⟩ (.slice (some ⟨b6,0,none⟩) 1 c6)).cell? ⟨g,2,none⟩=some (.int .i64 0)∧(w6.setCell ⟨M_g,12,none⟩ (.slice (some ⟨b6,0,none⟩) 1 c6)).cell? ⟨g,3,none⟩=some (.int .i64 0)∧(w6.setCell ⟨M_g,12,none⟩ (.slice (some ⟨b6,0,none⟩) 1 c6)).cell? ⟨g,5,none⟩=some (.int .i64 1)∧(w6.setCell ⟨M_g,12,none⟩ (.slice (some ⟨b6,0,none⟩) 1 c6)).cell? ⟨g,8,none⟩=some (.int .i64 0)∧(w6.setCell ⟨M_g,12,none⟩ (.slice (some ⟨b6,0,none⟩) 1 c6)).cell? ⟨g,6,none⟩=some (.int .i64 0)∧(w6.setCell ⟨M_g,12,none⟩ (.slice (some ⟨b6,0,none⟩) 1 c6)).cell? ⟨g,7,none⟩=some (.int .i64 20):=(by obtain ⟨u0,u1,u2,u3,u4,u5,u6,u7,u8⟩:=zo ((HB4.out.fr f7 id).fr ((Fr.refl (fun i=>i=M_g) w6).setCell (p:=⟨M_g,12,none⟩) (.inl rfl) (.slice (some ⟨b6,0,none⟩) 1 c6)) hgM);exact ⟨u2,u3,u5,u8,u6,u7⟩);have HKS:=O hks;clear happ hro o1 hkk hks;simp only at yy J)
  refine hK.out _ _ (HBN.out _ (by exact (by with_reducible ((repeat (first|assumption|exact Fr.refl _ _|refine Fr.alloc ?_ _|refine Fr.drew ?_|refine Fr.drewN ?_ _));done)))) (fun hHeld=> ?_);clear hK K
  try simp only [Act.put,J]
  refine wpAnyH_take (i:=22) (v:= ?_) rfl (by kernel_rfl) (by kernel_rfl) (by kernel_rfl) (fun _ _ _ h=>h) (Or.inl ⟨by rfl,?_⟩) (by assumption) ?_
  rotate_left
  ·(intro w hSw;(try dsimp only at hSw);go_simp)<;>with_reducible rfl
  simp only [Act.put,J];refine wpAnyH_take (i:=23) (v:= ?_) rfl (by kernel_rfl) (by kernel_rfl) (by kernel_rfl) (fun _ _ _ h=>h) (Or.inl ⟨by rfl,?_⟩) (by assumption) ?_
  rotate_left
  ·(intro w hSw;(try dsimp only at hSw);go_simp)<;>with_reducible rfl
  simp only [Act.put,J];refine wpAnyH_ready (rs:=[24]) (by kernel_rfl) (by simp) (AllReadyH.cons rfl (fun K hK=> ?_) AllReadyH.nil)
  go_simp
  refine hK.out _ _ (HKS.out) (fun hHeld=> ?_);clear hK K
  try simp only [Act.put,J]
  refine wpAnyH_done (by kernel_rfl) ?_ _
  go_wp2_with fail
  go_ret
  refine ⟨rfl,l2,⟨s2,b6,c6,HKK.out.1⟩,HEE.out,?_⟩;exact (HFF.out.mono fun i hi=>hi.elim .inl fun h=> .inr (.inl h)).trans HKK.out.2 fun i hi=> .inl (.inr (.inr hi))
 ·go_simp
  refine hK.out _ _ (HBN.out _ (by exact (by with_reducible ((repeat (first|assumption|exact Fr.refl _ _|refine Fr.alloc ?_ _|refine Fr.drew ?_|refine Fr.drewN ?_ _));done)))) (fun hHeld=> ?_);clear hK K
  try simp only [Act.put,J]
  refine wpAnyH_ready (rs:=[4]) (by kernel_rfl) (by simp) (AllReadyH.cons rfl (fun K hK=> ?_) AllReadyH.nil)
  go_simp
  refine hK.out _ _ (HBN.out _ (by exact (by with_reducible ((repeat (first|assumption|exact Fr.refl _ _|refine Fr.alloc ?_ _|refine Fr.drew ?_|refine Fr.drewN ?_ _));done)))) (fun hHeld=> ?_);clear hK K
  try simp only [Act.put,J]
  refine wpAnyH_ready (rs:=[21]) (by kernel_rfl) (by simp) (AllReadyH.cons rfl (fun K hK=> ?_) AllReadyH.nil)
  (refine aI _ (by rfl) (.tmp 25) (.tmp 41) _ (by rfl) 0 ig i1 u1 7 56 Tryz.underlying109 hi1 hu0 hu1 hu2 hu dcd (.slice none 0 0) 0 [] (by rfl) (aA.nil _ No _ _).1 (w4.heap.size+1) (some ⟨w4.heap.size,0,none⟩) 1 1 spL (by rfl) (fun h=>by cases h) (Rd.new w4.drew _ ig rfl) rfl (by simp [Value.oneCell']) dcd dcd (Nat.zero_le _) ?_;intro v1 w6 happ;have hro:aA ((w4.drew).alloc (.cells spL.toArray ig)) No ig 7 (.slice none 0 0) 0 []:=aA.nil _ _ _ _;obtain ⟨o1,f6⟩:=hro.appended happ;obtain ⟨A6,c6,rfl,-⟩:=o1.form;obtain ⟨b6,rfl,_⟩:=o1.head dcd;have f7:Fr No w4 w6:=(((Fr.refl No w4).drew).alloc _).ah f6;have yy:=(nU ((H4.out.au f7).blk)).2.2;have J:=((H4.out.au f7).blk).frozen 12;have hszz:(w4.drew.alloc (.cells spL.toArray ig)).heap.size=w4.heap.size+1:=(by simp);have hkk:=HK.out _ f7 b6 c6 (o1.mono fun i hi=>hi.elim (fun h=>h.elim) fun h=>by omega);have HKK:=O hkk;have hks:(w6.setCell ⟨M_g,12,none⟩ (.slice (some ⟨b6,0,none⟩) 1 c6)).cell? ⟨g,2,none⟩=some (.int .i64 0)∧(w6.setCell ⟨M_g,12,none⟩ (.slice (some ⟨b6,0,none⟩) 1 c6)).cell? ⟨g,3,none⟩=some (.int .i64 0)∧(w6.setCell ⟨M_g,12,none⟩ (.slice (some ⟨b6,0,none⟩) 1 c6)).cell? ⟨g,5,none⟩=some (.int .i64 1)∧(w6.setCell ⟨M_g,12,none⟩ (.slice (some ⟨b6,0,none⟩) 1 c6)).cell? ⟨g,8,none⟩=some (.int .i64 0)∧(w6.setCell ⟨M_g,12,none⟩ (.slice (some ⟨b6,0,none⟩) 1 c6)).cell? ⟨g,6,none⟩=some (.int .i64 0)∧(w6.setCell ⟨M_g,12,none⟩ (.slice (some ⟨b6,0,none⟩) 1 c6)).cell? ⟨g,7,none⟩=some (.int .i64 20):=(by obtain ⟨u0,u1,u2,u3,u4,u5,u6,u7,u8⟩:=zo ((HB4.out.fr f7 id).fr ((Fr.refl (fun i=>i=M_g) w6).setCell (p:=⟨M_g,12,none⟩) (.inl rfl) (.slice (some ⟨b6,0,none⟩) 1 c6)) hgM);exact ⟨u2,u3,u5,u8,u6,u7⟩);have HKS:=O hks;clear happ hro o1 hkk hks;simp only at yy J)
  refine hK.out _ _ (HBN.out _ (by exact (by with_reducible ((repeat (first|assumption|exact Fr.refl _ _|refine Fr.alloc ?_ _|refine Fr.drew ?_|refine Fr.drewN ?_ _));done)))) (fun hHeld=> ?_);clear hK K
  try simp only [Act.put,J]
  refine wpAnyH_take (i:=22) (v:= ?_) rfl (by kernel_rfl) (by kernel_rfl) (by kernel_rfl) (fun _ _ _ h=>h) (Or.inl ⟨by rfl,?_⟩) (by assumption) ?_
  rotate_left
  ·(intro w hSw;(try dsimp only at hSw);go_simp)<;>with_reducible rfl
  simp only [Act.put,J];refine wpAnyH_take (i:=23) (v:= ?_) rfl (by kernel_rfl) (by kernel_rfl) (by kernel_rfl) (fun _ _ _ h=>h) (Or.inl ⟨by rfl,?_⟩) (by assumption) ?_
  rotate_left
  ·(intro w hSw;(try dsimp only at hSw);go_simp)<;>with_reducible rfl
  simp only [Act.put,J];refine wpAnyH_ready (rs:=[24]) (by kernel_rfl) (by simp) (AllReadyH.cons rfl (fun K hK=> ?_) AllReadyH.nil)
  go_simp
  refine hK.out _ _ (HKS.out) (fun hHeld=> ?_);clear hK K
  try simp only [Act.put,J]
  refine wpAnyH_done (by kernel_rfl) ?_ _
  go_wp2_with fail
  go_ret
  refine ⟨rfl,l2,⟨s2,b6,c6,HKK.out.1⟩,HEE.out,?_⟩;exact (HFF.out.mono fun i hi=>hi.elim .inl fun h=> .inr (.inl h)).trans HKK.out.2 fun i hi=> .inl (.inr (.inr hi))
end
section
set_option linter.unusedSimpArgs false
variable {w w' :World}{F G:Nat→Prop}{lab lab' :Nat→Option Nat}{p z n m k:Nat}{pv:Nat→Nat}{q:Qs}{c:Cx}{s:Sx}
theorem aA.jY {G' :Nat→Prop}{e:TypeId}{size n g:Nat}{v:Value}{xs:List Value}(h:aA w (fun b=>lab b=none∧b≠p∧b≠g∧¬G b) e size v n xs)(hg:∀i,G' i→G i∨w.heap.size≤i)(hf:Fr G w w'):aA w' (fun b=>lab b=none∧b≠p∧b≠g∧¬G' b) e size v n xs:=
 (h.strict.frF hf fun i hi=>hi.1.2.2.2).mono fun i hi=>⟨hi.1.1,hi.1.2.1,hi.1.2.2.1,fun hn=>(hg i hn).elim hi.1.2.2.2 fun h=>by omega⟩
theorem nX.gave {M:SM}{K K' :Kp}{vg:Value}{V:World}(h:nX w M lab G q n s k K vg m)(f:Fr No w V)(hto:CTo V G M.x0 K' w'):∃G',nX w' M lab G' q n s k K' vg m∧(∀i,G' i→G i∨w.heap.size≤i)∧Fr G w w' :=by
 obtain ⟨G',hc,hg,hf⟩:=hto;have h2:=h.au f;have hpl:=h2.pb.lt;have hgl:=h2.blk.lt;exact ⟨G',⟨h.lg,h2.blk.fr hf (fun e=>(h.gg _ e).2.2 rfl),h2.pb.fr hf (fun e=>(h.gg _ e).2.1 rfl),h2.pq.fr hf (fun i hi=>(h.gg i hi).1),⟨h2.c0.z.jY hg hf,h2.c0.k.jY hg hf,h2.c0.t.jY hg hf,h2.c0.v.jY hg hf,h2.c0.r.jY hg hf,h2.c0.o.jY hg hf⟩,h2.r1.jY hg hf,h2.r2.jY hg hf,h2.vg.jY hg hf,hc,fun b hb=>by
  rcases hg b hb with h1|h1
  ·exact h.gg b h1
  ·refine ⟨?_,by omega,by omega⟩
   cases hj:lab b with
   |none=>rfl
   |some j=>have:=h2.pq.lt b j hj;omega⟩,fun i hi=>(hg i hi).imp id (fun h=>Nat.le_trans f.size h),(f.mono fun _ h=>h.elim).trans hf fun i hi=> .inl hi⟩
set_option maxHeartbeats 8000000 in
theorem yt {M:SM}{b cc:Nat}(h:nX w M lab G q n s k (cs0 0 0) (.slice (some ⟨b,0,none⟩) 1 cc) 1):Calls Tryz.prog 33 #[.pointer (some ⟨M.g,0,none⟩),.int .i64 0] w fun e w' =>e= .returned (.tuple #[])∧∃G',nX w' M lab G' q n s k {cs0 0 0 with ws:=[⟨0,1,0,0,20⟩]} (.slice (some ⟨b,0,none⟩) 1 cc) 1∧(∀i,G' i→G i∨w.heap.size≤i)∧Fr G w w' :=by
 obtain ⟨M_g,M_p,M_z,ars,au0,M_c,adp,aky,ado,akx,agp,arq⟩:=M;have hcl:∀V,Fr No w V→V.cell? ⟨M_g,12,none⟩=some (.slice (some ⟨b,0,none⟩) 1 cc)∧V.cell? ⟨b,0,none⟩=some (.int .i64 0)∧V.cell? ⟨b,1,none⟩=some (.int .i64 1)∧V.cell? ⟨b,2,none⟩=some (.int .i64 0)∧V.cell? ⟨b,3,none⟩=some (.int .i64 1)∧V.cell? ⟨b,4,none⟩=some (.int .i64 0)∧V.cell? ⟨b,5,none⟩=some (.int .i64 0)∧V.cell? ⟨b,6,none⟩=some (.int .i64 20):=fun V hV=>by
  have h2:=h.au hV;have h3:=(h2.vg.cells dcd).2.2;exact ⟨(nU h2.blk).2.2,h3 0 dcd,h3 1 dcd,h3 2 dcd,h3 3 dcd,h3 4 dcd,h3 5 dcd,h3 6 dcd⟩
 have hbl:=(h.vg.cells dcd).1;have hgl:=h.blk.lt;simp only at h hcl hgl ⊢;have HCL:=O hcl;obtain ⟨x0,y0,y1,y2,y3,y4,y5,y6⟩:=hcl _ (Fr.refl _ _);have H:=O h;clear h hcl
 go_in
 go_upto_region 1 with fail
 go_cut [4] from 11 to 23 (fun x wx=>∃ga,x= .pointer (some ⟨ga,0,none⟩)∧w.heap.size≤ga∧Blk wx ga ig #[.int .i64 0,.int .i64 1,.int .i64 0,.int .i64 1,.int .i64 0,.int .i64 0,.int .i64 20]∧Fr No w wx)
 case first=>
  have hs9:w.heap.size≤w.heap.size:=Nat.le_refl _
  go_region_held3 (fun V=>V.cell? ⟨M_g,12,none⟩=some (.slice (some ⟨b,0,none⟩) 1 cc)∧V.cell? ⟨b,0,none⟩=some (.int .i64 0)∧V.cell? ⟨b,1,none⟩=some (.int .i64 1)∧V.cell? ⟨b,2,none⟩=some (.int .i64 0)∧V.cell? ⟨b,3,none⟩=some (.int .i64 1)∧V.cell? ⟨b,4,none⟩=some (.int .i64 0)∧V.cell? ⟨b,5,none⟩=some (.int .i64 0)∧V.cell? ⟨b,6,none⟩=some (.int .i64 20)) ((refine HCL.out _ ?_;exact (by repeat (with_reducible first|assumption|exact Fr.refl _ _|refine Fr.alloc ?_ _|refine Fr.drew ?_|refine Fr.drewN ?_ _|refine Fr.setCell ?_ (.inr (by assumption)) _)))) (first
   |(go_at_call 9;refine (dR _ _ _ dcd dcd).mono ?_;rintro e w' ⟨rfl,rfl⟩))
  all_goals go_wp2_with fail
  all_goals go_meet
  all_goals exact ⟨w.heap.size,rfl,Nat.le_refl _,(Blk.new w ig _).fr ((Fr.refl No _).drew) id,((Fr.refl No w).alloc _).drew⟩
 clear x0 y0 y1 y2 y3 y4 y5 y6 HCL;obtain ⟨ga,rfl,hga,hb,f1⟩:=hcut;have h1:=H.out.au f1;have hbw:=hb.lt;have hng:∀i,i=ga→¬G i:=fun i e hi=>by have:=H.out.cp.lt i hi;omega
 have hq7:∀V,Fr G wc V→V.cell? ⟨M_g,11,none⟩=some (.slice (some ⟨adp,0,none⟩) 1 aky)∧V.cell? ⟨adp,0,none⟩=some (.slice (some ⟨ado,0,none⟩) 2 akx)∧V.cell? ⟨ado,0,none⟩=some (.pointer (some ⟨agp,0,none⟩))∧V.cell? ⟨ga,0,none⟩=some (.int .i64 0)∧V.cell? ⟨ga,2,none⟩=some (.int .i64 0)∧V.cell? ⟨ga,3,none⟩=some (.int .i64 1)∧V.cell? ⟨ga,4,none⟩=some (.int .i64 0)∧V.cell? ⟨ga,5,none⟩=some (.int .i64 0)∧V.cell? ⟨ga,6,none⟩=some (.int .i64 20):=fun V hV=>by
  obtain ⟨u0,u1,u2,u3,u4,u5,u6⟩:=zq (hb.fr hV (hng _ rfl));exact ⟨(nU (h1.blk.fr hV (fun e=>(h1.gg _ e).2.2 rfl))).2.1,((h1.r1.frF hV (fun i hi=>hi.2.2.2)).cells dcd).2.2 0 (by simp),((h1.r2.frF hV (fun i hi=>hi.2.2.2)).cells dcd).2.2 0 (by simp),u0,u2,u3,u4,u5,u6⟩
 obtain ⟨gt,hgt,_⟩:=h1.cp.gated;simp only at hgt;have hgc:=fun V (hV:Fr No wc V)=>(gG (p:=agp) (show V.cell? ⟨agp,6,none⟩=some (.pointer (some ⟨gt,0,none⟩)) from (by obtain ⟨s,q,t,g,Ah,ch,b,_⟩:=h1.cp.at_;have e1:=hgt.symm.trans (b.cell 6);have e2:=(b.fr hV id).cell 6;simp only at e1 e2;rw [e2];exact e1.symm)));have hgv:=fun V (hV:Fr No wc V)=>qp (h1.cp.au hV) (show V.cell? ⟨agp,6,none⟩=some (.pointer (some ⟨gt,0,none⟩)) from (by obtain ⟨s,q,t,g,Ah,ch,b,_⟩:=h1.cp.at_;have e1:=hgt.symm.trans (b.cell 6);have e2:=(b.fr hV id).cell 6;simp only at e1 e2;rw [e2];exact e1.symm)) rfl ⟨0,1,0,0,20⟩ dcd rfl dcd;obtain ⟨c0,c1,c2,c3,c4,c5,c6,c7,c8⟩:=hq7 _ (Fr.refl _ _);have awz:=(h1.r1.cells dcd).1;have akr:=(h1.r2.cells dcd).1;obtain ⟨H1,HQ7,HGC,HGV,HB,F1⟩:=oK h1 hq7 hgc hgv hb f1;clear h1 hq7 hgc hgv hb f1 hgt
 go_upto_region 2 with fail
 go_region_held3 (fun V=>V.cell? ⟨M_g,11,none⟩=some (.slice (some ⟨adp,0,none⟩) 1 aky)∧V.cell? ⟨adp,0,none⟩=some (.slice (some ⟨ado,0,none⟩) 2 akx)∧V.cell? ⟨ado,0,none⟩=some (.pointer (some ⟨agp,0,none⟩))∧V.cell? ⟨ga,0,none⟩=some (.int .i64 0)∧V.cell? ⟨ga,2,none⟩=some (.int .i64 0)∧V.cell? ⟨ga,3,none⟩=some (.int .i64 1)∧V.cell? ⟨ga,4,none⟩=some (.int .i64 0)∧V.cell? ⟨ga,5,none⟩=some (.int .i64 0)∧V.cell? ⟨ga,6,none⟩=some (.int .i64 20)) ((refine HQ7.out _ ?_;exact (by with_reducible ((repeat (first|assumption|exact Fr.refl _ _|refine Fr.alloc ?_ _|refine Fr.drew ?_|refine Fr.drewN ?_ _));done)))) (first
  |(go_at_call 7;refine (HGC.out _ (by with_reducible ((repeat (first|assumption|exact Fr.refl _ _|refine Fr.alloc ?_ _|refine Fr.drew ?_|refine Fr.drewN ?_ _));done))).mono ?_;rintro e w5 ⟨rfl,hw5⟩;have hw6:=hw5.symm;subst hw6)
  |(go_at_call 8;refine (HGV.out _ (by with_reducible ((repeat (first|assumption|exact Fr.refl _ _|refine Fr.alloc ?_ _|refine Fr.drew ?_|refine Fr.drewN ?_ _));done))).mono ?_;rintro e w6 ⟨rfl,hto⟩;have f9:Fr G wc w6:=((Fr.refl _ wc).drew).trans hto.choose_spec.2.2 fun i hi=> .inl hi;have HTO:=O hto;clear hto))
 all_goals go_wp2_with fail
 all_goals exact bodyPost_end (results_none rfl _ _ _) rfl ⟨rfl,H.out.gave (F1.out.drew) HTO.out⟩
end
section
set_option linter.unusedSimpArgs false
variable {w w' :World}{F G:Nat→Prop}{lab lab' :Nat→Option Nat}{p z n m k:Nat}{pv:Nat→Nat}{q:Qs}{c:Cx}{s:Sx}
theorem sP (hq:QAt w lab z pv q n)(hb:Blk w p an0 (plC c z s k)):Calls Tryz.prog 35 #[.pointer (some ⟨p,0,none⟩)] w (pJ w TEq 9 q.done.length (lF q.done)):=by
 have hq:=alk hq;obtain ⟨_,_,_,_,_,_,_,_,_,_,c10,_⟩:=fI hb;have HQ:=O hq;clear hb hq
 go_in
 go_wp2_with fail
 refine HQ.out.mono ?_;rintro e w1 m1;have M:=O m1;obtain ⟨A,cc,rfl,-⟩:=m1
 go_wp2_with fail
 go_ret
 exact M.out
theorem aii {w2 v:World}{g:Nat}{z0 z1 z2 z3 z4 z5 z6:Value}(f:Fr No w2 v)(s3:w2.heap.size≤g)(bk:Blk v g ig #[z0,z1,z2,z3,z4,z5,z6])(x0 x1 x2 x3 x4 x5 x6:Value):
  Blk (World.setCell (World.setCell (World.setCell (World.setCell (World.setCell (World.setCell (World.setCell (v) ⟨g,0,none⟩ x0) ⟨g,1,none⟩ x1) ⟨g,2,none⟩ x2) ⟨g,3,none⟩ x3) ⟨g,4,none⟩ x4) ⟨g,5,none⟩ x5) ⟨g,6,none⟩ x6) g ig #[x0,x1,x2,x3,x4,x5,x6]∧Fr No w2 (World.setCell (World.setCell (World.setCell (World.setCell (World.setCell (World.setCell (World.setCell (v) ⟨g,0,none⟩ x0) ⟨g,1,none⟩ x1) ⟨g,2,none⟩ x2) ⟨g,3,none⟩ x3) ⟨g,4,none⟩ x4) ⟨g,5,none⟩ x5) ⟨g,6,none⟩ x6):=
 ⟨Blk.cv (((((((bk.aC 0 x0).aC 1 x1).aC 2 x2).aC 3 x3).aC 4 x4).aC 5 x5).aC 6 x6) (by simp),((((((f.setCell (p:=⟨g,0,none⟩) (.inr s3) x0).setCell (p:=⟨g,1,none⟩) (.inr s3) x1).setCell (p:=⟨g,2,none⟩) (.inr s3) x2).setCell (p:=⟨g,3,none⟩) (.inr s3) x3).setCell (p:=⟨g,4,none⟩) (.inr s3) x4).setCell (p:=⟨g,5,none⟩) (.inr s3) x5).setCell (p:=⟨g,6,none⟩) (.inr s3) x6⟩
theorem aee {w2 v:World}(f:Fr No w2 v)(x0 x1 x2 x3 x4 x5 x6:Value):Blk (v.alloc (.cells #[x0,x1,x2,x3,x4,x5,x6] ig)) v.heap.size ig #[x0,x1,x2,x3,x4,x5,x6]∧Fr No w2 (v.alloc (.cells #[x0,x1,x2,x3,x4,x5,x6] ig)):=⟨Blk.new _ _ _,f.alloc _⟩
def rqA:Rq:=⟨0,1,1,2,0,⟨#[97]⟩,⟨#[98]⟩⟩
theorem aq9:(exF {cs0 0 0 with ws:=[⟨0,1,0,0,20⟩]} 0 3 rqA).1=⟨0,1,0,noS⟩:=by decide+kernel
theorem apr:rqB rqA=true:=by decide+kernel
set_option maxHeartbeats 8000000 in
theorem nI (w:World):Calls Tryz.prog 6 #[] w fun e w' =>e= .returned (.bool true)∧Fr No w w' :=by
 go_in
 go_wp2_with fail
 refine (ah5 _).mono ?_;rintro e v ⟨⟨bz,cz,bc,cc,bt,ct,bv,cv,br,cr,bo,co⟩,rfl,hc,f1⟩;have HC:=O hc;clear hc
 go_wp2_with fail
 refine (ac5 HC.out).mono ?_;rintro e w2 ⟨⟨M_g,M_p,M_z,ars,⟨nz,mz,nc,mc,nt,mt,nv,mv,nr,mr,no,mo⟩,M_c,adp,aky,ado,akx,agp,arq⟩,lab,s,b0,b1,rfl,hs,⟨hl0,hl1,hl2,hl3⟩,f2⟩;simp only at hl1 hl2;obtain ⟨HS,HL0⟩:=aN hs hl0;clear hs hl0 HC
 go_wp2_with fail
 refine (yg HS.out.e HS.out.pl dcd).mono ?_;rintro e w3 ⟨rfl,cZ,s1,hp1,hs1,he1,f3⟩;obtain ⟨HP1,HS1,HE1,F3⟩:=fV hp1 hs1 he1 f3;clear hp1 hs1 he1 f3
 go_wp2_with fail
 refine (yc HS1.out HP1.out dcd).mono ?_;rintro e w4 ⟨rfl,dW,s2,b,cc2,hs2,he2,f4⟩;obtain ⟨HS2,HE2,F4⟩:=bC hs2 he2 f4;clear hs2 he2 f4
 go_wp2_with fail
 refine (yt HS2.out).mono ?_;rintro e w5 ⟨rfl,G3,hs3,hg3,f5⟩;have HG3:=O hg3;clear hg3;have hcw:∀V,Fr No w5 V→V.cell? ⟨M_g,11,none⟩=some (.slice (some ⟨adp,0,none⟩) 1 aky)∧V.cell? ⟨adp,0,none⟩=some (.slice (some ⟨ado,0,none⟩) 2 akx)∧V.cell? ⟨ado,0,none⟩=some (.pointer (some ⟨agp,0,none⟩)):=fun V hV=>by
  have h1:=hs3.au hV;exact ⟨(nU h1.blk).2.1,(h1.r1.cells (by simp)).2.2 0 (by simp),(h1.r2.cells (by simp)).2.2 0 (by simp)⟩
 obtain ⟨x0,x1,x2⟩:=hcw _ (Fr.refl _ _);have awz:adp<w5.heap.size:=(hs3.r1.cells (by simp)).1;have akr:ado<w5.heap.size:=(hs3.r2.cells (by simp)).1;have ay1:M_g<w5.heap.size:=hs3.blk.lt;obtain ⟨HS3,F5⟩:=aN hs3 f5;clear hs3 f5 hcw
 go_wp2_with fail
 refine (xA HS3.out.cp rqA dcd dcd apr rfl dcd dcd dcd 0 3 dcd dcd (fun h=>absurd h dcd)).mono ?_;rintro e w6 ⟨he6,hto⟩;rw [aq9] at he6;simp only [Rp.arr] at he6;subst he6;obtain ⟨G4,hs4,-,f6⟩:=HS3.out.gave (Fr.refl No w5) hto;obtain ⟨g9,hg9⟩:∃g,g=w6.heap.size:=⟨_,rfl⟩;obtain ⟨w7,hw7⟩:∃W,W=w6.alloc (.cells #[.int .i64 0,.int .i64 1,.int .i64 0,.string noS] TRp):=⟨_,rfl⟩;have f7:Fr No w6 w7:=by rw [hw7];exact aj _ _
 have b9:Blk w7 g9 TRp #[.int .i64 0,.int .i64 1,.int .i64 0,.string noS]:=by rw [hw7,hg9];exact Blk.new _ _ _
 have hs5:=hs4.au f7;have hcf:∀V,Fr No w7 V→V.cell? ⟨M_g,0,none⟩=some (.int .i64 2)∧V.cell? ⟨M_g,1,none⟩=some (.slice (some ⟨nz,0,none⟩) 2 mz)∧V.cell? ⟨M_g,2,none⟩=some (.slice (some ⟨nc,0,none⟩) 2 mc)∧V.cell? ⟨M_g,3,none⟩=some (.slice (some ⟨nt,0,none⟩) 1 mt)∧V.cell? ⟨M_g,4,none⟩=some (.slice (some ⟨nv,0,none⟩) 1 mv)∧V.cell? ⟨M_g,5,none⟩=some (.slice (some ⟨nr,0,none⟩) 1 mr)∧V.cell? ⟨M_g,6,none⟩=some (.slice (some ⟨no,0,none⟩) 1 mo)∧V.cell? ⟨M_g,7,none⟩=some (.int .i64 1)∧V.cell? ⟨M_g,8,none⟩=some (.int .i64 20)∧V.cell? ⟨M_g,9,none⟩=some (.int .i64 0)∧V.cell? ⟨M_g,10,none⟩=some (.pointer (some ⟨M_p,0,none⟩)):=fun V hV=>by
  have h1:=(hs5.au hV).blk;exact ⟨h1.cell 0,h1.cell 1,h1.cell 2,h1.cell 3,h1.cell 4,h1.cell 5,h1.cell 6,h1.cell 7,h1.cell 8,h1.cell 9,h1.cell 10⟩
 have hen:=fun V (hV:Fr No w7 V)=>sP (hs5.au hV).pq (hs5.au hV).pb;have hho:=fun V (hV:Fr No w7 V) {be ec:Nat} {H:Nat→Prop} ho=>yT (be:=be) (ec:=ec) (H:=H) (hs5.au hV).c0 ho;obtain ⟨HCF,HEN⟩:=aN hcf hen;have HHO:=O @hho;obtain ⟨HW7,HG9,F7,B9,F6,HS4⟩:=oK hw7 hg9 f7 b9 f6 hs4;have ax7:w6.heap.size≤w7.heap.size:=f7.size;clear x0 x1 x2 hto hs4 f6 hs5 hcf hen hho hw7 hg9 f7 b9
 go_upto_region 6 with fail
 try rw [←HW7.out]
 try rw [←HG9.out]
 obtain ⟨c0,c1,c2,c3,c4,c5,c6,c7,c8,c9,c10⟩:=HCF.out _ (Fr.refl _ _);have ay0:M_g<w7.heap.size:=by have:=F6.out.size;omega
 go_cut [3,4] from 33 to 45 (fun x y wx=>∃ga,x= .pointer (some ⟨ga,0,none⟩)∧y= .bool true∧Blk wx ga ig #[.int .i64 0,.int .i64 1,.int .i64 0,.int .i64 1,.int .i64 0,.int .i64 0,.int .i64 20]∧w7.heap.size≤ga∧Fr No w7 wx)
 case first=>
  have hs9:w7.heap.size≤w7.heap.size:=Nat.le_refl _
  go_region_held3 (fun V=>V.cell? ⟨M_g,0,none⟩=some (.int .i64 2)∧V.cell? ⟨M_g,1,none⟩=some (.slice (some ⟨nz,0,none⟩) 2 mz)∧V.cell? ⟨M_g,2,none⟩=some (.slice (some ⟨nc,0,none⟩) 2 mc)∧V.cell? ⟨M_g,3,none⟩=some (.slice (some ⟨nt,0,none⟩) 1 mt)∧V.cell? ⟨M_g,4,none⟩=some (.slice (some ⟨nv,0,none⟩) 1 mv)∧V.cell? ⟨M_g,5,none⟩=some (.slice (some ⟨nr,0,none⟩) 1 mr)∧V.cell? ⟨M_g,6,none⟩=some (.slice (some ⟨no,0,none⟩) 1 mo)∧V.cell? ⟨M_g,7,none⟩=some (.int .i64 1)∧V.cell? ⟨M_g,8,none⟩=some (.int .i64 20)∧V.cell? ⟨M_g,9,none⟩=some (.int .i64 0)∧V.cell? ⟨M_g,10,none⟩=some (.pointer (some ⟨M_p,0,none⟩))) ((refine HCF.out _ ?_;exact (by repeat (with_reducible first|assumption|exact Fr.refl _ _|refine Fr.alloc ?_ _|refine Fr.drew ?_|refine Fr.drewN ?_ _|refine Fr.setCell ?_ (.inr (by assumption)) _)))) (first
   |(go_at_call 35;refine (HEN.out _ (by repeat (with_reducible first|assumption|exact Fr.refl _ _|refine Fr.alloc ?_ _|refine Fr.drew ?_|refine Fr.drewN ?_ _|refine Fr.setCell ?_ (.inr (by assumption)) _))).mono ?_;rintro e v6 ⟨A,ec,rfl,ho,fe⟩;have fQ:Fr No w7 v6:=Fr.ah (by repeat (with_reducible first|assumption|exact Fr.refl _ _|refine Fr.alloc ?_ _|refine Fr.drew ?_|refine Fr.drewN ?_ _|refine Fr.setCell ?_ (.inr (by assumption)) _)) fe;obtain ⟨be,rfl,_⟩:=ho.head (by decide+kernel);have HO:=O ho;have hs6:=fQ.size;clear ho)
   |(go_at_call 34;refine (HHO.out _ (by repeat (with_reducible first|assumption|exact Fr.refl _ _|refine Fr.alloc ?_ _|refine Fr.drew ?_|refine Fr.drewN ?_ _|refine Fr.setCell ?_ (.inr (by assumption)) _)) (HO.out.au (by with_reducible ((repeat (first|assumption|exact Fr.refl _ _|refine Fr.alloc ?_ _|refine Fr.drew ?_|refine Fr.drewN ?_ _));done)))).mono ?_;rintro e v7 ⟨rfl,fh⟩;have fR:Fr No w7 v7:=Fr.ah (by repeat (with_reducible first|assumption|exact Fr.refl _ _|refine Fr.alloc ?_ _|refine Fr.drew ?_|refine Fr.drewN ?_ _|refine Fr.setCell ?_ (.inr (by assumption)) _)) fh;have s9:=fR.size;first|(have bk:Blk v7 v6.heap.size ig #[.int .i64 0,.int .i64 0,.int .i64 0,.int .i64 0,.int .i64 0,.int .i64 0,.int .i64 0]:=Blk.fr (F:=No) (Blk.new v6 ig _) fh id;have hsB:w7.heap.size≤v6.heap.size:=hs6;have u0:=bk.cell 0;have u1:=bk.cell 1;have u2:=bk.cell 2;have u3:=bk.cell 3;have u4:=bk.cell 4;have u5:=bk.cell 5;have u6:=bk.cell 6;have y0:=bk.frozen 0;have y1:=bk.frozen 1;have y2:=bk.frozen 2;have y3:=bk.frozen 3;have y4:=bk.frozen 4;have y5:=bk.frozen 5;have y6:=bk.frozen 6;simp only [List.getElem?_toArray,List.getElem?_cons_zero,List.getElem?_cons_succ] at u0 u1 u2 u3 u4 u5 u6)|(have bk:Blk v7 w7.heap.size ig #[.int .i64 0,.int .i64 0,.int .i64 0,.int .i64 0,.int .i64 0,.int .i64 0,.int .i64 0]:=Blk.fr (F:=No) (Blk.new w7.drew ig _) (Fr.ah fe fh) id;have hsB:w7.heap.size≤w7.heap.size:=Nat.le_refl _;have u0:=bk.cell 0;have u1:=bk.cell 1;have u2:=bk.cell 2;have u3:=bk.cell 3;have u4:=bk.cell 4;have u5:=bk.cell 5;have u6:=bk.cell 6;have y0:=bk.frozen 0;have y1:=bk.frozen 1;have y2:=bk.frozen 2;have y3:=bk.frozen 3;have y4:=bk.frozen 4;have y5:=bk.frozen 5;have y6:=bk.frozen 6;simp only [List.getElem?_toArray,List.getElem?_cons_zero,List.getElem?_cons_succ] at u0 u1 u2 u3 u4 u5 u6)|skip;clear fh))
  all_goals first
   |(have hq:=aii fR hsB bk (.int .i64 0) (.int .i64 1) (.int .i64 0) (.int .i64 1) (.int .i64 0) (.int .i64 0) (.int .i64 20);clear u0 u1 u2 u3 u4 u5 u6 y0 y1 y2 y3 y4 y5 y6 bk;generalize World.setCell (World.setCell (World.setCell (World.setCell (World.setCell (World.setCell (World.setCell (v7) _ _) _ _) _ _) _ _) _ _) _ _) _ _=W5 at hq ⊢)
   |(have hq:=aee fR (.int .i64 0) (.int .i64 1) (.int .i64 0) (.int .i64 1) (.int .i64 0) (.int .i64 0) (.int .i64 20);generalize World.alloc v7 _=W5 at hq ⊢)
  all_goals go_wp2_with fail
  all_goals go_meet
  all_goals obtain ⟨b5,f5⟩:=hq
  all_goals exact ⟨_,rfl,rfl,b5,by omega,f5⟩
 obtain ⟨ga,rfl,rfl,b5,hga,f5⟩:=hcut;have h9:=B9.out.fr f5 id;obtain ⟨u0,u1,u2,u3,u4,u5,u6⟩:=zq b5;have r0:=h9.cell 0;have r1:=h9.cell 1;simp only [List.getElem?_toArray,List.getElem?_cons_zero,List.getElem?_cons_succ] at r0 r1;have FE:=O f5;clear c0 c1 c2 c3 c4 c5 c6 c7 c8 c9 c10 b5 h9 f5
 go_wp2_with fail
 go_ret
 refine ⟨rfl,?_⟩;have z2:=f2.size;have z3:=F3.out.size;have z4:=F4.out.size;have z5:=F5.out.size;have l1:∀i,lab i≠none→v.heap.size≤i:=fun i hi=>by
  cases hj:lab i with
  |none=>exact absurd hj hi
  |some j=>exact HL0.out i j hj
 have l2:∀i,cZ i≠none→v.heap.size≤i:=fun i hi=>by
  by_cases h:i<w2.heap.size
  ·exact l1 i (by rw [←HE1.out i h];exact hi)
  ·omega
 have g3:∀i,G3 i→v.heap.size≤i:=fun i hi=>by
  rcases HG3.out i hi with h|h
  ·omega
  ·omega
 refine f1.ah ((((((f2.aD F3.out fun i hi=> ?_).aD F4.out fun i hi=> ?_).aD F5.out fun i hi=> ?_).aD F6.out g3).ah F7.out).ah FE.out)
 ·rcases hi with hi|hi
  ·exact l1 i hi
  ·omega
 ·rcases hi with hi|hi
  ·exact l2 i hi
  ·omega
 ·omega
end
end Go.Proofs.YtodkhcbjpodgeaaGreat
