/-
  What is refused.
-/
import Derived.Test.YtodkhcbjpodgeaaGreatG18
import Derived.Test.YtodkhcbjpodgeaaGreatG37
namespace Go.Proofs.YtodkhcbjpodgeaaGreat
open Go.ChangeShapes Go.WideShapes Go.ChangeAt Go.RowKit
set_option linter.unusedVariables false
set_option maxRecDepth 100000
set_option maxHeartbeats 4000000
section
set_option linter.unusedSimpArgs false
variable {w w' :World}{F G:Nat→Prop}
set_option maxHeartbeats 8000000 in
theorem aa2 {bz cz bc cc bt ct bv cv br cr bo co st kt sc kc:Nat}(hc:eB w F ⟨bz,cz,bc,cc,bt,ct,bv,cv,br,cr,bo,co⟩)(hs:eD w G ⟨st,kt,sc,kc⟩ 1):Calls Tryz.prog 148 #[.agg #[.int .i64 2,.slice (some ⟨bz,0,none⟩) 2 cz,.slice (some ⟨bc,0,none⟩) 2 cc,.slice (some ⟨bt,0,none⟩) 1 ct,.slice (some ⟨bv,0,none⟩) 1 cv,.slice (some ⟨br,0,none⟩) 1 cr,.slice (some ⟨bo,0,none⟩) 1 co,.int .i64 1,.int .i64 20,.int .i64 0],.agg #[.int .i64 0,.int .i64 1,.slice (some ⟨st,0,none⟩) 1 kt,.slice (some ⟨sc,0,none⟩) 2 kc,.int .i64 1,.int .i64 0,.int .i64 0,.int .i64 0]] w fun e w' =>e= .returned (.slice none 0 0)∧Fr No w w' :=by
 have hlc:=hc.lts;have hrc:=fun V (hV:Fr No w V)=>(hc.au hV).k.cells dcd;have hls:=hs.lts;have hcx:=fun V (hV:Fr No w V)=>hc.au hV;have hsx:=fun V (hV:Fr No w V)=>hs.au hV;clear hc hs;simp only at hlc;simp only at hls;obtain ⟨g1,w1,hg1,hw1,fa1,hz1,b1⟩:=mk1 w #[.int .i64 2,.slice (some ⟨bz,0,none⟩) 2 cz,.slice (some ⟨bc,0,none⟩) 2 cc,.slice (some ⟨bt,0,none⟩) 1 ct,.slice (some ⟨bv,0,none⟩) 1 cv,.slice (some ⟨br,0,none⟩) 1 cr,.slice (some ⟨bo,0,none⟩) 1 co,.int .i64 1,.int .i64 20,.int .i64 0] TCf;have FB1:Fr No w w1:=fa1;obtain ⟨g2,w2,hg2,hw2,fa2,hz2,b2⟩:=mk1 w1 #[.int .i64 0,.int .i64 1,.slice (some ⟨st,0,none⟩) 1 kt,.slice (some ⟨sc,0,none⟩) 2 kc,.int .i64 1,.int .i64 0,.int .i64 0,.int .i64 0] TSg;replace b1:=b1.fr fa2 id;have FB2:Fr No w w2:=FB1.ah fa2;have hal:∀V,Fr No w2 V→V.cell? ⟨g1,0,none⟩=some (.int .i64 2)∧V.cell? ⟨g1,1,none⟩=some (.slice (some ⟨bz,0,none⟩) 2 cz)∧V.cell? ⟨g1,2,none⟩=some (.slice (some ⟨bc,0,none⟩) 2 cc)∧V.cell? ⟨g1,3,none⟩=some (.slice (some ⟨bt,0,none⟩) 1 ct)∧V.cell? ⟨g1,4,none⟩=some (.slice (some ⟨bv,0,none⟩) 1 cv)∧V.cell? ⟨g1,5,none⟩=some (.slice (some ⟨br,0,none⟩) 1 cr)∧V.cell? ⟨g1,6,none⟩=some (.slice (some ⟨bo,0,none⟩) 1 co)∧V.cell? ⟨g1,7,none⟩=some (.int .i64 1)∧V.cell? ⟨g1,8,none⟩=some (.int .i64 20)∧V.cell? ⟨g1,9,none⟩=some (.int .i64 0)∧V.cell? ⟨g2,0,none⟩=some (.int .i64 0)∧V.cell? ⟨g2,1,none⟩=some (.int .i64 1)∧V.cell? ⟨g2,2,none⟩=some (.slice (some ⟨st,0,none⟩) 1 kt)∧V.cell? ⟨g2,3,none⟩=some (.slice (some ⟨sc,0,none⟩) 2 kc)∧V.cell? ⟨g2,4,none⟩=some (.int .i64 1)∧V.cell? ⟨g2,5,none⟩=some (.int .i64 0)∧V.cell? ⟨g2,6,none⟩=some (.int .i64 0)∧V.cell? ⟨g2,7,none⟩=some (.int .i64 0)∧V.cell? ⟨bc,0,none⟩=some (.int .i64 0)∧V.cell? ⟨bc,1,none⟩=some (.int .i64 9)∧V.cell? ⟨bc,2,none⟩=some (.int .i64 1)∧V.cell? ⟨bc,3,none⟩=some (.int .i64 9):=fun V hV=>⟨(b1.fr hV id).cell 0,(b1.fr hV id).cell 1,(b1.fr hV id).cell 2,(b1.fr hV id).cell 3,(b1.fr hV id).cell 4,(b1.fr hV id).cell 5,(b1.fr hV id).cell 6,(b1.fr hV id).cell 7,(b1.fr hV id).cell 8,(b1.fr hV id).cell 9,(b2.fr hV id).cell 0,(b2.fr hV id).cell 1,(b2.fr hV id).cell 2,(b2.fr hV id).cell 3,(b2.fr hV id).cell 4,(b2.fr hV id).cell 5,(b2.fr hV id).cell 6,(b2.fr hV id).cell 7,(hrc V (FB2.ah hV)).2.2 0 dcd,(hrc V (FB2.ah hV)).2.2 1 dcd,(hrc V (FB2.ah hV)).2.2 2 dcd,(hrc V (FB2.ah hV)).2.2 3 dcd⟩
 have HAL:=O hal;have fP:g1<w2.heap.size:=b1.lt;have kg:g2<w2.heap.size:=b2.lt;have jQ:w.heap.size≤g1:=by omega
 have hlt1:g1<g2:=by omega
 have hsB:w.heap.size≤w2.heap.size:=FB2.size;obtain ⟨FB,HCX,HSX,B1_,B2_⟩:=jq FB2 hcx hsx b1 b2;have he2:w.heap.size+1=g2:=by omega
 clear hal fa1 fa2 b1 b2 FB1 FB2 hrc hcx hsx;obtain ⟨HW1,HG1,HZ1,HW2,HG2,HZ2,HE2⟩:=jo hw1 hg1 hz1 hw2 hg2 hz2 he2;clear he2 hz2 hg2 hw2 hz1 hg1 hw1
 go_in
 go_upto_region 1 with fail
 rw [←HW1.out];rw [←HW2.out]
 try rw [HE2.out]
 try rw [←HG1.out]
 clear HW1 HG1 HZ1 HW2 HG2 HZ2 HE2;obtain ⟨q0_,q1_,q2_,q3_,q4_,q5_,q6_,q7_,q8_,q9_,bJ,bI,bG,bH,bM,bL,bO,bU,dh,dB,dF,dD⟩:=HAL.out _ (Fr.refl _ _)
 go_wp2_with fail
 refine (vJ (HCX.out _ FB.out) (HSX.out _ FB.out)).mono ?_;rintro e v ⟨b,c',rfl,o,f⟩;have hoc:=fun V (hV:Fr No v V)=>(o.au hV).cells dcd;have aby:∀V,Fr No v V→(V.cell? ⟨b,0,none⟩=some (.int .i64 5)∧V.cell? ⟨b,1,none⟩=some (.int .i64 2)):=fun V hV=>⟨(hoc V hV).2.2 0 dcd,(hoc V hV).2.2 1 dcd⟩;have HA3:=O aby;clear hoc aby o;clear q0_ q1_ q2_ q3_ q4_ q5_ q6_ q7_ q8_ q9_ bJ bI bG bH bM bL bO bU dh dB dF dD;obtain ⟨q0_,q1_,q2_,q3_,q4_,q5_,q6_,q7_,q8_,q9_,bJ,bI,bG,bH,bM,bL,bO,bU,dh,dB,dF,dD⟩:=HAL.out _ f
 go_wp2_with fail
 clear q0_ q1_ q2_ q3_ q4_ q5_ q6_ q7_ q8_ q9_ bJ bI bG bH bM bL bO bU dh dB dF dD
 go_loopw [5,12] (fun x i wr=>∃k:Nat,k≤2∧i= .int .i64 k∧x= .slice none 0 0∧Fr No v wr) (fun _ i _=>2-(intOf i).toNat)
 case atStart=>exact ⟨0,Nat.zero_le _,rfl,rfl,Fr.refl _ _⟩
 obtain ⟨k,hk,rfl,rfl,hf⟩:=hrel;obtain ⟨q0_,q1_,q2_,q3_,q4_,q5_,q6_,q7_,q8_,q9_,bJ,bI,bG,bH,bM,bL,bO,bU,dh,dB,dF,dD⟩:=HAL.out _ (f.ah hf);obtain ⟨z0,z1⟩:=HA3.out _ hf;obtain rfl|rfl|rfl:k=0∨k=1∨k=2:=by omega
 ·go_wp2_with fail
  go_roundw
  case rel=>exact ⟨1,by decide,rfl,rfl,hf⟩
  case measure=>simp [intOf]
 ·go_wp2_with fail
  go_roundw
  case rel=>exact ⟨2,by decide,rfl,rfl,hf⟩
  case measure=>simp [intOf]
 ·go_wp2_with fail
  go_ret
  exact ⟨rfl,FB.out.ah (f.ah hf)⟩
set_option maxHeartbeats 8000000 in
theorem aa1 {bz cz bc cc bt ct bv cv br cr bo co st kt sc kc:Nat}(hc:eB w F ⟨bz,cz,bc,cc,bt,ct,bv,cv,br,cr,bo,co⟩)(hs:eD w G ⟨st,kt,sc,kc⟩ 2):Calls Tryz.prog 148 #[.agg #[.int .i64 2,.slice (some ⟨bz,0,none⟩) 2 cz,.slice (some ⟨bc,0,none⟩) 2 cc,.slice (some ⟨bt,0,none⟩) 1 ct,.slice (some ⟨bv,0,none⟩) 1 cv,.slice (some ⟨br,0,none⟩) 1 cr,.slice (some ⟨bo,0,none⟩) 1 co,.int .i64 1,.int .i64 20,.int .i64 0],.agg #[.int .i64 0,.int .i64 2,.slice (some ⟨st,0,none⟩) 1 kt,.slice (some ⟨sc,0,none⟩) 2 kc,.int .i64 1,.int .i64 0,.int .i64 0,.int .i64 0]] w fun e w' =>e= .returned (.slice none 0 0)∧Fr No w w' :=by
 have hlc:=hc.lts;have hrc:=fun V (hV:Fr No w V)=>(hc.au hV).k.cells dcd;have hls:=hs.lts;have hcx:=fun V (hV:Fr No w V)=>hc.au hV;have hsx:=fun V (hV:Fr No w V)=>hs.au hV;clear hc hs;simp only at hlc;simp only at hls;obtain ⟨g1,w1,hg1,hw1,fa1,hz1,b1⟩:=mk1 w #[.int .i64 2,.slice (some ⟨bz,0,none⟩) 2 cz,.slice (some ⟨bc,0,none⟩) 2 cc,.slice (some ⟨bt,0,none⟩) 1 ct,.slice (some ⟨bv,0,none⟩) 1 cv,.slice (some ⟨br,0,none⟩) 1 cr,.slice (some ⟨bo,0,none⟩) 1 co,.int .i64 1,.int .i64 20,.int .i64 0] TCf;have FB1:Fr No w w1:=fa1;obtain ⟨g2,w2,hg2,hw2,fa2,hz2,b2⟩:=mk1 w1 #[.int .i64 0,.int .i64 2,.slice (some ⟨st,0,none⟩) 1 kt,.slice (some ⟨sc,0,none⟩) 2 kc,.int .i64 1,.int .i64 0,.int .i64 0,.int .i64 0] TSg;replace b1:=b1.fr fa2 id;have FB2:Fr No w w2:=FB1.ah fa2;have hal:∀V,Fr No w2 V→V.cell? ⟨g1,0,none⟩=some (.int .i64 2)∧V.cell? ⟨g1,1,none⟩=some (.slice (some ⟨bz,0,none⟩) 2 cz)∧V.cell? ⟨g1,2,none⟩=some (.slice (some ⟨bc,0,none⟩) 2 cc)∧V.cell? ⟨g1,3,none⟩=some (.slice (some ⟨bt,0,none⟩) 1 ct)∧V.cell? ⟨g1,4,none⟩=some (.slice (some ⟨bv,0,none⟩) 1 cv)∧V.cell? ⟨g1,5,none⟩=some (.slice (some ⟨br,0,none⟩) 1 cr)∧V.cell? ⟨g1,6,none⟩=some (.slice (some ⟨bo,0,none⟩) 1 co)∧V.cell? ⟨g1,7,none⟩=some (.int .i64 1)∧V.cell? ⟨g1,8,none⟩=some (.int .i64 20)∧V.cell? ⟨g1,9,none⟩=some (.int .i64 0)∧V.cell? ⟨g2,0,none⟩=some (.int .i64 0)∧V.cell? ⟨g2,1,none⟩=some (.int .i64 2)∧V.cell? ⟨g2,2,none⟩=some (.slice (some ⟨st,0,none⟩) 1 kt)∧V.cell? ⟨g2,3,none⟩=some (.slice (some ⟨sc,0,none⟩) 2 kc)∧V.cell? ⟨g2,4,none⟩=some (.int .i64 1)∧V.cell? ⟨g2,5,none⟩=some (.int .i64 0)∧V.cell? ⟨g2,6,none⟩=some (.int .i64 0)∧V.cell? ⟨g2,7,none⟩=some (.int .i64 0)∧V.cell? ⟨bc,0,none⟩=some (.int .i64 0)∧V.cell? ⟨bc,1,none⟩=some (.int .i64 9)∧V.cell? ⟨bc,2,none⟩=some (.int .i64 1)∧V.cell? ⟨bc,3,none⟩=some (.int .i64 9):=fun V hV=>⟨(b1.fr hV id).cell 0,(b1.fr hV id).cell 1,(b1.fr hV id).cell 2,(b1.fr hV id).cell 3,(b1.fr hV id).cell 4,(b1.fr hV id).cell 5,(b1.fr hV id).cell 6,(b1.fr hV id).cell 7,(b1.fr hV id).cell 8,(b1.fr hV id).cell 9,(b2.fr hV id).cell 0,(b2.fr hV id).cell 1,(b2.fr hV id).cell 2,(b2.fr hV id).cell 3,(b2.fr hV id).cell 4,(b2.fr hV id).cell 5,(b2.fr hV id).cell 6,(b2.fr hV id).cell 7,(hrc V (FB2.ah hV)).2.2 0 dcd,(hrc V (FB2.ah hV)).2.2 1 dcd,(hrc V (FB2.ah hV)).2.2 2 dcd,(hrc V (FB2.ah hV)).2.2 3 dcd⟩
 have HAL:=O hal;have fP:g1<w2.heap.size:=b1.lt;have kg:g2<w2.heap.size:=b2.lt;have jQ:w.heap.size≤g1:=by omega
 have hlt1:g1<g2:=by omega
 have hsB:w.heap.size≤w2.heap.size:=FB2.size;obtain ⟨FB,HCX,HSX,B1_,B2_⟩:=jq FB2 hcx hsx b1 b2;have he2:w.heap.size+1=g2:=by omega
 clear hal fa1 fa2 b1 b2 FB1 FB2 hrc hcx hsx;obtain ⟨HW1,HG1,HZ1,HW2,HG2,HZ2,HE2⟩:=jo hw1 hg1 hz1 hw2 hg2 hz2 he2;clear he2 hz2 hg2 hw2 hz1 hg1 hw1
 go_in
 go_upto_region 1 with fail
 rw [←HW1.out];rw [←HW2.out]
 try rw [HE2.out]
 try rw [←HG1.out]
 clear HW1 HG1 HZ1 HW2 HG2 HZ2 HE2;obtain ⟨q0_,q1_,q2_,q3_,q4_,q5_,q6_,q7_,q8_,q9_,bJ,bI,bG,bH,bM,bL,bO,bU,dh,dB,dF,dD⟩:=HAL.out _ (Fr.refl _ _)
 go_wp2_with fail
 refine (vI (HCX.out _ FB.out) (HSX.out _ FB.out)).mono ?_;rintro e v ⟨b,c',rfl,o,f⟩;have hoc:=fun V (hV:Fr No v V)=>(o.au hV).cells dcd;have aby:∀V,Fr No v V→(V.cell? ⟨b,0,none⟩=some (.int .i64 5)∧V.cell? ⟨b,1,none⟩=some (.int .i64 2)):=fun V hV=>⟨(hoc V hV).2.2 0 dcd,(hoc V hV).2.2 1 dcd⟩;have HA3:=O aby;clear hoc aby o;clear q0_ q1_ q2_ q3_ q4_ q5_ q6_ q7_ q8_ q9_ bJ bI bG bH bM bL bO bU dh dB dF dD;obtain ⟨q0_,q1_,q2_,q3_,q4_,q5_,q6_,q7_,q8_,q9_,bJ,bI,bG,bH,bM,bL,bO,bU,dh,dB,dF,dD⟩:=HAL.out _ f
 go_wp2_with fail
 clear q0_ q1_ q2_ q3_ q4_ q5_ q6_ q7_ q8_ q9_ bJ bI bG bH bM bL bO bU dh dB dF dD
 go_loopw [5,12] (fun x i wr=>∃k:Nat,k≤2∧i= .int .i64 k∧x= .slice none 0 0∧Fr No v wr) (fun _ i _=>2-(intOf i).toNat)
 case atStart=>exact ⟨0,Nat.zero_le _,rfl,rfl,Fr.refl _ _⟩
 obtain ⟨k,hk,rfl,rfl,hf⟩:=hrel;obtain ⟨q0_,q1_,q2_,q3_,q4_,q5_,q6_,q7_,q8_,q9_,bJ,bI,bG,bH,bM,bL,bO,bU,dh,dB,dF,dD⟩:=HAL.out _ (f.ah hf);obtain ⟨z0,z1⟩:=HA3.out _ hf;obtain rfl|rfl|rfl:k=0∨k=1∨k=2:=by omega
 ·go_wp2_with fail
  go_roundw
  case rel=>exact ⟨1,by decide,rfl,rfl,hf⟩
  case measure=>simp [intOf]
 ·go_wp2_with fail
  go_roundw
  case rel=>exact ⟨2,by decide,rfl,rfl,hf⟩
  case measure=>simp [intOf]
 ·go_wp2_with fail
  go_ret
  exact ⟨rfl,FB.out.ah (f.ah hf)⟩
set_option maxHeartbeats 8000000 in
theorem xU {bz cz bc cc bt ct bv cv br cr bo co:Nat}(hc:eB w F ⟨bz,cz,bc,cc,bt,ct,bv,cv,br,cr,bo,co⟩):Calls Tryz.prog 180 #[.agg #[.int .i64 2,.slice (some ⟨bz,0,none⟩) 2 cz,.slice (some ⟨bc,0,none⟩) 2 cc,.slice (some ⟨bt,0,none⟩) 1 ct,.slice (some ⟨bv,0,none⟩) 1 cv,.slice (some ⟨br,0,none⟩) 1 cr,.slice (some ⟨bo,0,none⟩) 1 co,.int .i64 1,.int .i64 20,.int .i64 0],.agg #[.int .i64 1,.int .i64 0,.int .i64 0,.int .i64 0,.int .i64 1,.int .i64 0,.int .i64 0,.int .i64 0,.int .i64 0]] w fun e w' =>e= .returned (.bool true)∧Fr No w w' :=by
 have hlc:=hc.lts;have hcx:=fun V (hV:Fr No w V)=>hc.au hV;clear hc;simp only at hlc;obtain ⟨g1,w1,hg1,hw1,fa1,hz1,b1⟩:=mk1 w #[.int .i64 2,.slice (some ⟨bz,0,none⟩) 2 cz,.slice (some ⟨bc,0,none⟩) 2 cc,.slice (some ⟨bt,0,none⟩) 1 ct,.slice (some ⟨bv,0,none⟩) 1 cv,.slice (some ⟨br,0,none⟩) 1 cr,.slice (some ⟨bo,0,none⟩) 1 co,.int .i64 1,.int .i64 20,.int .i64 0] TCf;have FB1:Fr No w w1:=fa1;obtain ⟨g2,w2,hg2,hw2,fa2,hz2,b2⟩:=mk1 w1 #[.int .i64 1,.int .i64 0,.int .i64 0,.int .i64 0,.int .i64 1,.int .i64 0,.int .i64 0,.int .i64 0,.int .i64 0] iT;replace b1:=b1.fr fa2 id;have FB2:Fr No w w2:=FB1.ah fa2;have hal:∀V,Fr No w2 V→V.cell? ⟨g1,0,none⟩=some (.int .i64 2)∧V.cell? ⟨g1,1,none⟩=some (.slice (some ⟨bz,0,none⟩) 2 cz)∧V.cell? ⟨g1,2,none⟩=some (.slice (some ⟨bc,0,none⟩) 2 cc)∧V.cell? ⟨g1,3,none⟩=some (.slice (some ⟨bt,0,none⟩) 1 ct)∧V.cell? ⟨g1,4,none⟩=some (.slice (some ⟨bv,0,none⟩) 1 cv)∧V.cell? ⟨g1,5,none⟩=some (.slice (some ⟨br,0,none⟩) 1 cr)∧V.cell? ⟨g1,6,none⟩=some (.slice (some ⟨bo,0,none⟩) 1 co)∧V.cell? ⟨g1,7,none⟩=some (.int .i64 1)∧V.cell? ⟨g1,8,none⟩=some (.int .i64 20)∧V.cell? ⟨g1,9,none⟩=some (.int .i64 0)∧V.cell? ⟨g2,0,none⟩=some (.int .i64 1)∧V.cell? ⟨g2,1,none⟩=some (.int .i64 0)∧V.cell? ⟨g2,2,none⟩=some (.int .i64 0)∧V.cell? ⟨g2,3,none⟩=some (.int .i64 0)∧V.cell? ⟨g2,4,none⟩=some (.int .i64 1)∧V.cell? ⟨g2,5,none⟩=some (.int .i64 0)∧V.cell? ⟨g2,6,none⟩=some (.int .i64 0)∧V.cell? ⟨g2,7,none⟩=some (.int .i64 0)∧V.cell? ⟨g2,8,none⟩=some (.int .i64 0):=fun V hV=>⟨(b1.fr hV id).cell 0,(b1.fr hV id).cell 1,(b1.fr hV id).cell 2,(b1.fr hV id).cell 3,(b1.fr hV id).cell 4,(b1.fr hV id).cell 5,(b1.fr hV id).cell 6,(b1.fr hV id).cell 7,(b1.fr hV id).cell 8,(b1.fr hV id).cell 9,(b2.fr hV id).cell 0,(b2.fr hV id).cell 1,(b2.fr hV id).cell 2,(b2.fr hV id).cell 3,(b2.fr hV id).cell 4,(b2.fr hV id).cell 5,(b2.fr hV id).cell 6,(b2.fr hV id).cell 7,(b2.fr hV id).cell 8⟩
 have HAL:=O hal;have fP:g1<w2.heap.size:=b1.lt;have kg:g2<w2.heap.size:=b2.lt;have jQ:w.heap.size≤g1:=by omega
 have hlt1:g1<g2:=by omega
 have hsB:w.heap.size≤w2.heap.size:=FB2.size;obtain ⟨FB,HCX,B1_,B2_⟩:=fV FB2 hcx b1 b2;have he2:w.heap.size+1=g2:=by omega
 clear hal fa1 fa2 b1 b2 FB1 FB2 hcx;obtain ⟨HW1,HG1,HZ1,HW2,HG2,HZ2,HE2⟩:=jo hw1 hg1 hz1 hw2 hg2 hz2 he2;clear he2 hz2 hg2 hw2 hz1 hg1 hw1
 go_in
 go_upto_region 1 with fail
 rw [←HW1.out];rw [←HW2.out]
 try rw [HE2.out]
 try rw [←HG1.out]
 clear HW1 HG1 HZ1 HW2 HG2 HZ2 HE2;obtain ⟨q0_,q1_,q2_,q3_,q4_,q5_,q6_,q7_,q8_,q9_,bJ,bI,bG,bH,bM,bL,bO,bU,dh⟩:=HAL.out _ (Fr.refl _ _);have hsh:=fun V=>lZ e1C V;have hft:=fun V=>qy e1C 1 2 2 1 V dcd dcd dcd dcd dcd dcd dcd dcd;rw [show fF e1C=true from by decide] at hsh;rw [show uX e1C 1 2 2 1=true from by decide] at hft;unfold En.v at hsh hft;simp only [e1C] at hsh hft;obtain ⟨HSH,HFT⟩:=aN hsh hft;clear hsh hft
 go_wp2_with fail
 refine (HSH.out _).mono ?_;rintro e v ⟨rfl,f⟩;clear q0_ q1_ q2_ q3_ q4_ q5_ q6_ q7_ q8_ q9_ bJ bI bG bH bM bL bO bU dh;obtain ⟨q0_,q1_,q2_,q3_,q4_,q5_,q6_,q7_,q8_,q9_,bJ,bI,bG,bH,bM,bL,bO,bU,dh⟩:=HAL.out _ f
 go_wp2_with fail
 refine (HFT.out _).mono ?_;rintro e v2 ⟨rfl,f2⟩
 go_wp2_with fail
 go_ret
 exact ⟨rfl,FB.out.ah (f.ah f2)⟩
set_option maxHeartbeats 8000000 in
theorem xS {bz cz bc cc bt ct bv cv br cr bo co:Nat}(hc:eB w F ⟨bz,cz,bc,cc,bt,ct,bv,cv,br,cr,bo,co⟩):Calls Tryz.prog 180 #[.agg #[.int .i64 2,.slice (some ⟨bz,0,none⟩) 2 cz,.slice (some ⟨bc,0,none⟩) 2 cc,.slice (some ⟨bt,0,none⟩) 1 ct,.slice (some ⟨bv,0,none⟩) 1 cv,.slice (some ⟨br,0,none⟩) 1 cr,.slice (some ⟨bo,0,none⟩) 1 co,.int .i64 1,.int .i64 20,.int .i64 0],.agg #[.int .i64 2,.int .i64 0,.int .i64 0,.int .i64 0,.int .i64 (-1),.int .i64 1,.int .i64 0,.int .i64 20,.int .i64 0]] w fun e w' =>e= .returned (.bool true)∧Fr No w w' :=by
 have hlc:=hc.lts;have hcx:=fun V (hV:Fr No w V)=>hc.au hV;clear hc;simp only at hlc;obtain ⟨g1,w1,hg1,hw1,fa1,hz1,b1⟩:=mk1 w #[.int .i64 2,.slice (some ⟨bz,0,none⟩) 2 cz,.slice (some ⟨bc,0,none⟩) 2 cc,.slice (some ⟨bt,0,none⟩) 1 ct,.slice (some ⟨bv,0,none⟩) 1 cv,.slice (some ⟨br,0,none⟩) 1 cr,.slice (some ⟨bo,0,none⟩) 1 co,.int .i64 1,.int .i64 20,.int .i64 0] TCf;have FB1:Fr No w w1:=fa1;obtain ⟨g2,w2,hg2,hw2,fa2,hz2,b2⟩:=mk1 w1 #[.int .i64 2,.int .i64 0,.int .i64 0,.int .i64 0,.int .i64 (-1),.int .i64 1,.int .i64 0,.int .i64 20,.int .i64 0] iT;replace b1:=b1.fr fa2 id;have FB2:Fr No w w2:=FB1.ah fa2;have hal:∀V,Fr No w2 V→V.cell? ⟨g1,0,none⟩=some (.int .i64 2)∧V.cell? ⟨g1,1,none⟩=some (.slice (some ⟨bz,0,none⟩) 2 cz)∧V.cell? ⟨g1,2,none⟩=some (.slice (some ⟨bc,0,none⟩) 2 cc)∧V.cell? ⟨g1,3,none⟩=some (.slice (some ⟨bt,0,none⟩) 1 ct)∧V.cell? ⟨g1,4,none⟩=some (.slice (some ⟨bv,0,none⟩) 1 cv)∧V.cell? ⟨g1,5,none⟩=some (.slice (some ⟨br,0,none⟩) 1 cr)∧V.cell? ⟨g1,6,none⟩=some (.slice (some ⟨bo,0,none⟩) 1 co)∧V.cell? ⟨g1,7,none⟩=some (.int .i64 1)∧V.cell? ⟨g1,8,none⟩=some (.int .i64 20)∧V.cell? ⟨g1,9,none⟩=some (.int .i64 0)∧V.cell? ⟨g2,0,none⟩=some (.int .i64 2)∧V.cell? ⟨g2,1,none⟩=some (.int .i64 0)∧V.cell? ⟨g2,2,none⟩=some (.int .i64 0)∧V.cell? ⟨g2,3,none⟩=some (.int .i64 0)∧V.cell? ⟨g2,4,none⟩=some (.int .i64 (-1))∧V.cell? ⟨g2,5,none⟩=some (.int .i64 1)∧V.cell? ⟨g2,6,none⟩=some (.int .i64 0)∧V.cell? ⟨g2,7,none⟩=some (.int .i64 20)∧V.cell? ⟨g2,8,none⟩=some (.int .i64 0):=fun V hV=>⟨(b1.fr hV id).cell 0,(b1.fr hV id).cell 1,(b1.fr hV id).cell 2,(b1.fr hV id).cell 3,(b1.fr hV id).cell 4,(b1.fr hV id).cell 5,(b1.fr hV id).cell 6,(b1.fr hV id).cell 7,(b1.fr hV id).cell 8,(b1.fr hV id).cell 9,(b2.fr hV id).cell 0,(b2.fr hV id).cell 1,(b2.fr hV id).cell 2,(b2.fr hV id).cell 3,(b2.fr hV id).cell 4,(b2.fr hV id).cell 5,(b2.fr hV id).cell 6,(b2.fr hV id).cell 7,(b2.fr hV id).cell 8⟩
 have HAL:=O hal;have fP:g1<w2.heap.size:=b1.lt;have kg:g2<w2.heap.size:=b2.lt;have jQ:w.heap.size≤g1:=by omega
 have hlt1:g1<g2:=by omega
 have hsB:w.heap.size≤w2.heap.size:=FB2.size;obtain ⟨FB,HCX,B1_,B2_⟩:=fV FB2 hcx b1 b2;have he2:w.heap.size+1=g2:=by omega
 clear hal fa1 fa2 b1 b2 FB1 FB2 hcx;obtain ⟨HW1,HG1,HZ1,HW2,HG2,HZ2,HE2⟩:=jo hw1 hg1 hz1 hw2 hg2 hz2 he2;clear he2 hz2 hg2 hw2 hz1 hg1 hw1
 go_in
 go_upto_region 1 with fail
 rw [←HW1.out];rw [←HW2.out]
 try rw [HE2.out]
 try rw [←HG1.out]
 clear HW1 HG1 HZ1 HW2 HG2 HZ2 HE2;obtain ⟨q0_,q1_,q2_,q3_,q4_,q5_,q6_,q7_,q8_,q9_,bJ,bI,bG,bH,bM,bL,bO,bU,dh⟩:=HAL.out _ (Fr.refl _ _);have hsh:=fun V=>lZ e2C V;have hft:=fun V=>qy e2C 1 2 2 1 V dcd dcd dcd dcd dcd dcd dcd dcd;rw [show fF e2C=true from by decide] at hsh;rw [show uX e2C 1 2 2 1=true from by decide] at hft;unfold En.v at hsh hft;simp only [e2C] at hsh hft;obtain ⟨HSH,HFT⟩:=aN hsh hft;clear hsh hft
 go_wp2_with fail
 refine (HSH.out _).mono ?_;rintro e v ⟨rfl,f⟩;clear q0_ q1_ q2_ q3_ q4_ q5_ q6_ q7_ q8_ q9_ bJ bI bG bH bM bL bO bU dh;obtain ⟨q0_,q1_,q2_,q3_,q4_,q5_,q6_,q7_,q8_,q9_,bJ,bI,bG,bH,bM,bL,bO,bU,dh⟩:=HAL.out _ f
 go_wp2_with fail
 refine (HFT.out _).mono ?_;rintro e v2 ⟨rfl,f2⟩
 go_wp2_with fail
 go_ret
 exact ⟨rfl,FB.out.ah (f.ah f2)⟩
set_option maxHeartbeats 8000000 in
theorem rO {bz cz bc cc bt ct bv cv br cr bo co st kt sc kc:Nat}(hc:eB w F ⟨bz,cz,bc,cc,bt,ct,bv,cv,br,cr,bo,co⟩)(hs:eD w G ⟨st,kt,sc,kc⟩ 0):Calls Tryz.prog 145 #[.agg #[.int .i64 2,.slice (some ⟨bz,0,none⟩) 2 cz,.slice (some ⟨bc,0,none⟩) 2 cc,.slice (some ⟨bt,0,none⟩) 1 ct,.slice (some ⟨bv,0,none⟩) 1 cv,.slice (some ⟨br,0,none⟩) 1 cr,.slice (some ⟨bo,0,none⟩) 1 co,.int .i64 1,.int .i64 20,.int .i64 0],.agg #[.int .i64 0,.int .i64 0,.slice (some ⟨st,0,none⟩) 1 kt,.slice (some ⟨sc,0,none⟩) 2 kc,.int .i64 1,.int .i64 0,.int .i64 0,.int .i64 0],.agg #[.int .i64 1,.int .i64 0,.int .i64 0,.int .i64 0,.int .i64 1,.int .i64 0,.int .i64 0,.int .i64 0,.int .i64 0]] w fun e w' =>e= .returned (.int .i64 0)∧Fr No w w' :=by
 have hlc:=hc.lts;have hls:=hs.lts;have hcx:=fun V (hV:Fr No w V)=>hc.au hV;have hsx:=fun V (hV:Fr No w V)=>hs.au hV;clear hc hs;simp only at hlc;simp only at hls;obtain ⟨g1,w1,hg1,hw1,fa1,hz1,b1⟩:=mk1 w #[.int .i64 2,.slice (some ⟨bz,0,none⟩) 2 cz,.slice (some ⟨bc,0,none⟩) 2 cc,.slice (some ⟨bt,0,none⟩) 1 ct,.slice (some ⟨bv,0,none⟩) 1 cv,.slice (some ⟨br,0,none⟩) 1 cr,.slice (some ⟨bo,0,none⟩) 1 co,.int .i64 1,.int .i64 20,.int .i64 0] TCf;have FB1:Fr No w w1:=fa1;obtain ⟨g2,w2,hg2,hw2,fa2,hz2,b2⟩:=mk1 w1 #[.int .i64 0,.int .i64 0,.slice (some ⟨st,0,none⟩) 1 kt,.slice (some ⟨sc,0,none⟩) 2 kc,.int .i64 1,.int .i64 0,.int .i64 0,.int .i64 0] TSg;replace b1:=b1.fr fa2 id;have FB2:Fr No w w2:=FB1.ah fa2;obtain ⟨g3,w3,hg3,hw3,fa3,hz3,b3⟩:=mk1 w2 #[.int .i64 1,.int .i64 0,.int .i64 0,.int .i64 0,.int .i64 1,.int .i64 0,.int .i64 0,.int .i64 0,.int .i64 0] iT;replace b1:=b1.fr fa3 id;replace b2:=b2.fr fa3 id;have FB3:Fr No w w3:=FB2.ah fa3;have hal:∀V,Fr No w3 V→V.cell? ⟨g1,0,none⟩=some (.int .i64 2)∧V.cell? ⟨g1,1,none⟩=some (.slice (some ⟨bz,0,none⟩) 2 cz)∧V.cell? ⟨g1,2,none⟩=some (.slice (some ⟨bc,0,none⟩) 2 cc)∧V.cell? ⟨g1,3,none⟩=some (.slice (some ⟨bt,0,none⟩) 1 ct)∧V.cell? ⟨g1,4,none⟩=some (.slice (some ⟨bv,0,none⟩) 1 cv)∧V.cell? ⟨g1,5,none⟩=some (.slice (some ⟨br,0,none⟩) 1 cr)∧V.cell? ⟨g1,6,none⟩=some (.slice (some ⟨bo,0,none⟩) 1 co)∧V.cell? ⟨g1,7,none⟩=some (.int .i64 1)∧V.cell? ⟨g1,8,none⟩=some (.int .i64 20)∧V.cell? ⟨g1,9,none⟩=some (.int .i64 0)∧V.cell? ⟨g2,0,none⟩=some (.int .i64 0)∧V.cell? ⟨g2,1,none⟩=some (.int .i64 0)∧V.cell? ⟨g2,2,none⟩=some (.slice (some ⟨st,0,none⟩) 1 kt)∧V.cell? ⟨g2,3,none⟩=some (.slice (some ⟨sc,0,none⟩) 2 kc)∧V.cell? ⟨g2,4,none⟩=some (.int .i64 1)∧V.cell? ⟨g2,5,none⟩=some (.int .i64 0)∧V.cell? ⟨g2,6,none⟩=some (.int .i64 0)∧V.cell? ⟨g2,7,none⟩=some (.int .i64 0)∧V.cell? ⟨g3,0,none⟩=some (.int .i64 1)∧V.cell? ⟨g3,1,none⟩=some (.int .i64 0)∧V.cell? ⟨g3,2,none⟩=some (.int .i64 0)∧V.cell? ⟨g3,3,none⟩=some (.int .i64 0)∧V.cell? ⟨g3,4,none⟩=some (.int .i64 1)∧V.cell? ⟨g3,5,none⟩=some (.int .i64 0)∧V.cell? ⟨g3,6,none⟩=some (.int .i64 0)∧V.cell? ⟨g3,7,none⟩=some (.int .i64 0)∧V.cell? ⟨g3,8,none⟩=some (.int .i64 0):=fun V hV=>⟨(b1.fr hV id).cell 0,(b1.fr hV id).cell 1,(b1.fr hV id).cell 2,(b1.fr hV id).cell 3,(b1.fr hV id).cell 4,(b1.fr hV id).cell 5,(b1.fr hV id).cell 6,(b1.fr hV id).cell 7,(b1.fr hV id).cell 8,(b1.fr hV id).cell 9,(b2.fr hV id).cell 0,(b2.fr hV id).cell 1,(b2.fr hV id).cell 2,(b2.fr hV id).cell 3,(b2.fr hV id).cell 4,(b2.fr hV id).cell 5,(b2.fr hV id).cell 6,(b2.fr hV id).cell 7,(b3.fr hV id).cell 0,(b3.fr hV id).cell 1,(b3.fr hV id).cell 2,(b3.fr hV id).cell 3,(b3.fr hV id).cell 4,(b3.fr hV id).cell 5,(b3.fr hV id).cell 6,(b3.fr hV id).cell 7,(b3.fr hV id).cell 8⟩
 have HAL:=O hal;have fP:g1<w3.heap.size:=b1.lt;have kg:g2<w3.heap.size:=b2.lt;have ajq:g3<w3.heap.size:=b3.lt;have jQ:w.heap.size≤g1:=by omega
 have hlt1:g1<g2:=by omega
 have hlt2:g2<g3:=by omega
 have hsB:w.heap.size≤w3.heap.size:=FB3.size;obtain ⟨FB,HCX,HSX,B1_,B2_,B3_⟩:=oK FB3 hcx hsx b1 b2 b3;have he2:w.heap.size+1=g2:=by omega
 have he3:w.heap.size+2=g3:=by omega
 clear hal fa1 fa2 fa3 b1 b2 b3 FB1 FB2 FB3 hcx hsx;obtain ⟨HW1,HG1,HZ1,HW2,HG2,HZ2,HW3,HG3,HZ3,HE2,HE3⟩:=kP hw1 hg1 hz1 hw2 hg2 hz2 hw3 hg3 hz3 he2 he3;clear he3 he2 hz3 hg3 hw3 hz2 hg2 hw2 hz1 hg1 hw1
 go_in
 go_upto_region 1 with fail
 rw [←HW1.out];rw [←HW2.out];rw [←HW3.out]
 try rw [show w.heap.size+1+1=g3 from HE3.out]
 try rw [HE3.out]
 try rw [HE2.out]
 try rw [←HG1.out]
 clear HW1 HG1 HZ1 HW2 HG2 HZ2 HW3 HG3 HZ3 HE2 HE3;obtain ⟨q0_,q1_,q2_,q3_,q4_,q5_,q6_,q7_,q8_,q9_,bJ,bI,bG,bH,bM,bL,bO,bU,dh,dB,dF,dD,dQ,dP,dO,dV,dU⟩:=HAL.out _ (Fr.refl _ _)
 go_wp2_with fail
 refine (xU (HCX.out _ FB.out)).mono ?_;rintro e v ⟨rfl,f_⟩;clear q0_ q1_ q2_ q3_ q4_ q5_ q6_ q7_ q8_ q9_ bJ bI bG bH bM bL bO bU dh dB dF dD dQ dP dO dV dU;have f:=f_;clear f_;obtain ⟨q0_,q1_,q2_,q3_,q4_,q5_,q6_,q7_,q8_,q9_,bJ,bI,bG,bH,bM,bL,bO,bU,dh,dB,dF,dD,dQ,dP,dO,dV,dU⟩:=HAL.out _ f
 go_wp2_with fail
 refine (aat (HCX.out _ (FB.out.ah f)) (HSX.out _ (FB.out.ah f))).mono ?_;rintro e v ⟨rfl,f_⟩;clear q0_ q1_ q2_ q3_ q4_ q5_ q6_ q7_ q8_ q9_ bJ bI bG bH bM bL bO bU dh dB dF dD dQ dP dO dV dU;replace f:=f.ah f_;clear f_;obtain ⟨q0_,q1_,q2_,q3_,q4_,q5_,q6_,q7_,q8_,q9_,bJ,bI,bG,bH,bM,bL,bO,bU,dh,dB,dF,dD,dQ,dP,dO,dV,dU⟩:=HAL.out _ f
 go_wp2_with fail
 go_ret
 exact ⟨rfl,FB.out.ah f⟩
set_option maxHeartbeats 8000000 in
theorem rM {bz cz bc cc bt ct bv cv br cr bo co st kt sc kc:Nat}(hc:eB w F ⟨bz,cz,bc,cc,bt,ct,bv,cv,br,cr,bo,co⟩)(hs:eD w G ⟨st,kt,sc,kc⟩ 1):Calls Tryz.prog 145 #[.agg #[.int .i64 2,.slice (some ⟨bz,0,none⟩) 2 cz,.slice (some ⟨bc,0,none⟩) 2 cc,.slice (some ⟨bt,0,none⟩) 1 ct,.slice (some ⟨bv,0,none⟩) 1 cv,.slice (some ⟨br,0,none⟩) 1 cr,.slice (some ⟨bo,0,none⟩) 1 co,.int .i64 1,.int .i64 20,.int .i64 0],.agg #[.int .i64 0,.int .i64 1,.slice (some ⟨st,0,none⟩) 1 kt,.slice (some ⟨sc,0,none⟩) 2 kc,.int .i64 1,.int .i64 0,.int .i64 0,.int .i64 0],.agg #[.int .i64 2,.int .i64 0,.int .i64 0,.int .i64 0,.int .i64 (-1),.int .i64 1,.int .i64 0,.int .i64 20,.int .i64 0]] w fun e w' =>e= .returned (.int .i64 0)∧Fr No w w' :=by
 have hlc:=hc.lts;have hls:=hs.lts;have hcx:=fun V (hV:Fr No w V)=>hc.au hV;have hsx:=fun V (hV:Fr No w V)=>hs.au hV;clear hc hs;simp only at hlc;simp only at hls;obtain ⟨g1,w1,hg1,hw1,fa1,hz1,b1⟩:=mk1 w #[.int .i64 2,.slice (some ⟨bz,0,none⟩) 2 cz,.slice (some ⟨bc,0,none⟩) 2 cc,.slice (some ⟨bt,0,none⟩) 1 ct,.slice (some ⟨bv,0,none⟩) 1 cv,.slice (some ⟨br,0,none⟩) 1 cr,.slice (some ⟨bo,0,none⟩) 1 co,.int .i64 1,.int .i64 20,.int .i64 0] TCf;have FB1:Fr No w w1:=fa1;obtain ⟨g2,w2,hg2,hw2,fa2,hz2,b2⟩:=mk1 w1 #[.int .i64 0,.int .i64 1,.slice (some ⟨st,0,none⟩) 1 kt,.slice (some ⟨sc,0,none⟩) 2 kc,.int .i64 1,.int .i64 0,.int .i64 0,.int .i64 0] TSg;replace b1:=b1.fr fa2 id;have FB2:Fr No w w2:=FB1.ah fa2;obtain ⟨g3,w3,hg3,hw3,fa3,hz3,b3⟩:=mk1 w2 #[.int .i64 2,.int .i64 0,.int .i64 0,.int .i64 0,.int .i64 (-1),.int .i64 1,.int .i64 0,.int .i64 20,.int .i64 0] iT;replace b1:=b1.fr fa3 id;replace b2:=b2.fr fa3 id;have FB3:Fr No w w3:=FB2.ah fa3;have hal:∀V,Fr No w3 V→V.cell? ⟨g1,0,none⟩=some (.int .i64 2)∧V.cell? ⟨g1,1,none⟩=some (.slice (some ⟨bz,0,none⟩) 2 cz)∧V.cell? ⟨g1,2,none⟩=some (.slice (some ⟨bc,0,none⟩) 2 cc)∧V.cell? ⟨g1,3,none⟩=some (.slice (some ⟨bt,0,none⟩) 1 ct)∧V.cell? ⟨g1,4,none⟩=some (.slice (some ⟨bv,0,none⟩) 1 cv)∧V.cell? ⟨g1,5,none⟩=some (.slice (some ⟨br,0,none⟩) 1 cr)∧V.cell? ⟨g1,6,none⟩=some (.slice (some ⟨bo,0,none⟩) 1 co)∧V.cell? ⟨g1,7,none⟩=some (.int .i64 1)∧V.cell? ⟨g1,8,none⟩=some (.int .i64 20)∧V.cell? ⟨g1,9,none⟩=some (.int .i64 0)∧V.cell? ⟨g2,0,none⟩=some (.int .i64 0)∧V.cell? ⟨g2,1,none⟩=some (.int .i64 1)∧V.cell? ⟨g2,2,none⟩=some (.slice (some ⟨st,0,none⟩) 1 kt)∧V.cell? ⟨g2,3,none⟩=some (.slice (some ⟨sc,0,none⟩) 2 kc)∧V.cell? ⟨g2,4,none⟩=some (.int .i64 1)∧V.cell? ⟨g2,5,none⟩=some (.int .i64 0)∧V.cell? ⟨g2,6,none⟩=some (.int .i64 0)∧V.cell? ⟨g2,7,none⟩=some (.int .i64 0)∧V.cell? ⟨g3,0,none⟩=some (.int .i64 2)∧V.cell? ⟨g3,1,none⟩=some (.int .i64 0)∧V.cell? ⟨g3,2,none⟩=some (.int .i64 0)∧V.cell? ⟨g3,3,none⟩=some (.int .i64 0)∧V.cell? ⟨g3,4,none⟩=some (.int .i64 (-1))∧V.cell? ⟨g3,5,none⟩=some (.int .i64 1)∧V.cell? ⟨g3,6,none⟩=some (.int .i64 0)∧V.cell? ⟨g3,7,none⟩=some (.int .i64 20)∧V.cell? ⟨g3,8,none⟩=some (.int .i64 0):=fun V hV=>⟨(b1.fr hV id).cell 0,(b1.fr hV id).cell 1,(b1.fr hV id).cell 2,(b1.fr hV id).cell 3,(b1.fr hV id).cell 4,(b1.fr hV id).cell 5,(b1.fr hV id).cell 6,(b1.fr hV id).cell 7,(b1.fr hV id).cell 8,(b1.fr hV id).cell 9,(b2.fr hV id).cell 0,(b2.fr hV id).cell 1,(b2.fr hV id).cell 2,(b2.fr hV id).cell 3,(b2.fr hV id).cell 4,(b2.fr hV id).cell 5,(b2.fr hV id).cell 6,(b2.fr hV id).cell 7,(b3.fr hV id).cell 0,(b3.fr hV id).cell 1,(b3.fr hV id).cell 2,(b3.fr hV id).cell 3,(b3.fr hV id).cell 4,(b3.fr hV id).cell 5,(b3.fr hV id).cell 6,(b3.fr hV id).cell 7,(b3.fr hV id).cell 8⟩
 have HAL:=O hal;have fP:g1<w3.heap.size:=b1.lt;have kg:g2<w3.heap.size:=b2.lt;have ajq:g3<w3.heap.size:=b3.lt;have jQ:w.heap.size≤g1:=by omega
 have hlt1:g1<g2:=by omega
 have hlt2:g2<g3:=by omega
 have hsB:w.heap.size≤w3.heap.size:=FB3.size;obtain ⟨FB,HCX,HSX,B1_,B2_,B3_⟩:=oK FB3 hcx hsx b1 b2 b3;have he2:w.heap.size+1=g2:=by omega
 have he3:w.heap.size+2=g3:=by omega
 clear hal fa1 fa2 fa3 b1 b2 b3 FB1 FB2 FB3 hcx hsx;obtain ⟨HW1,HG1,HZ1,HW2,HG2,HZ2,HW3,HG3,HZ3,HE2,HE3⟩:=kP hw1 hg1 hz1 hw2 hg2 hz2 hw3 hg3 hz3 he2 he3;clear he3 he2 hz3 hg3 hw3 hz2 hg2 hw2 hz1 hg1 hw1
 go_in
 go_upto_region 1 with fail
 rw [←HW1.out];rw [←HW2.out];rw [←HW3.out]
 try rw [show w.heap.size+1+1=g3 from HE3.out]
 try rw [HE3.out]
 try rw [HE2.out]
 try rw [←HG1.out]
 clear HW1 HG1 HZ1 HW2 HG2 HZ2 HW3 HG3 HZ3 HE2 HE3;obtain ⟨q0_,q1_,q2_,q3_,q4_,q5_,q6_,q7_,q8_,q9_,bJ,bI,bG,bH,bM,bL,bO,bU,dh,dB,dF,dD,dQ,dP,dO,dV,dU⟩:=HAL.out _ (Fr.refl _ _)
 go_wp2_with fail
 refine (xS (HCX.out _ FB.out)).mono ?_;rintro e v ⟨rfl,f_⟩;clear q0_ q1_ q2_ q3_ q4_ q5_ q6_ q7_ q8_ q9_ bJ bI bG bH bM bL bO bU dh dB dF dD dQ dP dO dV dU;have f:=f_;clear f_;obtain ⟨q0_,q1_,q2_,q3_,q4_,q5_,q6_,q7_,q8_,q9_,bJ,bI,bG,bH,bM,bL,bO,bU,dh,dB,dF,dD,dQ,dP,dO,dV,dU⟩:=HAL.out _ f
 go_wp2_with fail
 refine (ab0 (HCX.out _ (FB.out.ah f)) (HSX.out _ (FB.out.ah f))).mono ?_;rintro e v ⟨rfl,f_⟩;clear q0_ q1_ q2_ q3_ q4_ q5_ q6_ q7_ q8_ q9_ bJ bI bG bH bM bL bO bU dh dB dF dD dQ dP dO dV dU;replace f:=f.ah f_;clear f_;obtain ⟨q0_,q1_,q2_,q3_,q4_,q5_,q6_,q7_,q8_,q9_,bJ,bI,bG,bH,bM,bL,bO,bU,dh,dB,dF,dD,dQ,dP,dO,dV,dU⟩:=HAL.out _ f
 go_wp2_with fail
 go_ret
 exact ⟨rfl,FB.out.ah f⟩
end
section
set_option linter.unusedSimpArgs false
variable {w w' :World}{F G:Nat→Prop}
set_option maxHeartbeats 8000000 in
theorem pz {bz cz bc cc bt ct bv cv br cr bo co st kt sc kc:Nat}(hc:eB w F ⟨bz,cz,bc,cc,bt,ct,bv,cv,br,cr,bo,co⟩)(hs:eD w G ⟨st,kt,sc,kc⟩ 0):Calls Tryz.prog 103 #[.agg #[.int .i64 2,.slice (some ⟨bz,0,none⟩) 2 cz,.slice (some ⟨bc,0,none⟩) 2 cc,.slice (some ⟨bt,0,none⟩) 1 ct,.slice (some ⟨bv,0,none⟩) 1 cv,.slice (some ⟨br,0,none⟩) 1 cr,.slice (some ⟨bo,0,none⟩) 1 co,.int .i64 1,.int .i64 20,.int .i64 0],.agg #[.int .i64 0,.int .i64 0,.slice (some ⟨st,0,none⟩) 1 kt,.slice (some ⟨sc,0,none⟩) 2 kc,.int .i64 1,.int .i64 0,.int .i64 0,.int .i64 0],.agg #[.int .i64 1,.int .i64 0,.int .i64 0,.int .i64 0,.int .i64 1,.int .i64 0,.int .i64 0,.int .i64 0,.int .i64 0]] w fun e w' =>∃s' :Sx,e= .returned (.tuple #[.agg (s'.arr 1),.int .i64 0])∧eD w' (fun b=>w.heap.size≤b) s' 1∧Fr No w w' :=by
 have hlc:=hc.lts;have hls:=hs.lts;have hcx:=fun V (hV:Fr No w V)=>hc.au hV;have hsx:=fun V (hV:Fr No w V)=>hs.au hV;clear hc hs;simp only at hlc;simp only at hls;obtain ⟨g1,w1,hg1,hw1,fa1,hz1,b1⟩:=mk1 w #[.int .i64 2,.slice (some ⟨bz,0,none⟩) 2 cz,.slice (some ⟨bc,0,none⟩) 2 cc,.slice (some ⟨bt,0,none⟩) 1 ct,.slice (some ⟨bv,0,none⟩) 1 cv,.slice (some ⟨br,0,none⟩) 1 cr,.slice (some ⟨bo,0,none⟩) 1 co,.int .i64 1,.int .i64 20,.int .i64 0] TCf;have FB1:Fr No w w1:=fa1;obtain ⟨g2,w2,hg2,hw2,fa2,hz2,b2⟩:=mk1 w1 #[.int .i64 0,.int .i64 0,.slice (some ⟨st,0,none⟩) 1 kt,.slice (some ⟨sc,0,none⟩) 2 kc,.int .i64 1,.int .i64 0,.int .i64 0,.int .i64 0] TSg;replace b1:=b1.fr fa2 id;have FB2:Fr No w w2:=FB1.ah fa2;obtain ⟨g3,w3,hg3,hw3,fa3,hz3,b3⟩:=mk1 w2 #[.int .i64 1,.int .i64 0,.int .i64 0,.int .i64 0,.int .i64 1,.int .i64 0,.int .i64 0,.int .i64 0,.int .i64 0] iT;replace b1:=b1.fr fa3 id;replace b2:=b2.fr fa3 id;have FB3:Fr No w w3:=FB2.ah fa3;obtain ⟨g4,w4,hg4,hw4,fa4,hz4,b4⟩:=mk1 w3 #[.int .i64 0,.int .i64 0,.slice none 0 0,.slice none 0 0,.int .i64 0,.int .i64 0,.int .i64 0,.int .i64 0] TSg;replace b1:=b1.fr fa4 id;replace b2:=b2.fr fa4 id;replace b3:=b3.fr fa4 id;have FB4:Fr No w w4:=FB3.ah fa4;have hal:∀V,Fr No w4 V→V.cell? ⟨g1,0,none⟩=some (.int .i64 2)∧V.cell? ⟨g1,1,none⟩=some (.slice (some ⟨bz,0,none⟩) 2 cz)∧V.cell? ⟨g1,2,none⟩=some (.slice (some ⟨bc,0,none⟩) 2 cc)∧V.cell? ⟨g1,3,none⟩=some (.slice (some ⟨bt,0,none⟩) 1 ct)∧V.cell? ⟨g1,4,none⟩=some (.slice (some ⟨bv,0,none⟩) 1 cv)∧V.cell? ⟨g1,5,none⟩=some (.slice (some ⟨br,0,none⟩) 1 cr)∧V.cell? ⟨g1,6,none⟩=some (.slice (some ⟨bo,0,none⟩) 1 co)∧V.cell? ⟨g1,7,none⟩=some (.int .i64 1)∧V.cell? ⟨g1,8,none⟩=some (.int .i64 20)∧V.cell? ⟨g1,9,none⟩=some (.int .i64 0)∧V.cell? ⟨g2,0,none⟩=some (.int .i64 0)∧V.cell? ⟨g2,1,none⟩=some (.int .i64 0)∧V.cell? ⟨g2,2,none⟩=some (.slice (some ⟨st,0,none⟩) 1 kt)∧V.cell? ⟨g2,3,none⟩=some (.slice (some ⟨sc,0,none⟩) 2 kc)∧V.cell? ⟨g2,4,none⟩=some (.int .i64 1)∧V.cell? ⟨g2,5,none⟩=some (.int .i64 0)∧V.cell? ⟨g2,6,none⟩=some (.int .i64 0)∧V.cell? ⟨g2,7,none⟩=some (.int .i64 0)∧V.cell? ⟨g3,0,none⟩=some (.int .i64 1)∧V.cell? ⟨g3,1,none⟩=some (.int .i64 0)∧V.cell? ⟨g3,2,none⟩=some (.int .i64 0)∧V.cell? ⟨g3,3,none⟩=some (.int .i64 0)∧V.cell? ⟨g3,4,none⟩=some (.int .i64 1)∧V.cell? ⟨g3,5,none⟩=some (.int .i64 0)∧V.cell? ⟨g3,6,none⟩=some (.int .i64 0)∧V.cell? ⟨g3,7,none⟩=some (.int .i64 0)∧V.cell? ⟨g3,8,none⟩=some (.int .i64 0)∧V.cell? ⟨g4,0,none⟩=some (.int .i64 0)∧V.cell? ⟨g4,1,none⟩=some (.int .i64 0)∧V.cell? ⟨g4,2,none⟩=some (.slice none 0 0)∧V.cell? ⟨g4,3,none⟩=some (.slice none 0 0)∧V.cell? ⟨g4,4,none⟩=some (.int .i64 0)∧V.cell? ⟨g4,5,none⟩=some (.int .i64 0)∧V.cell? ⟨g4,6,none⟩=some (.int .i64 0)∧V.cell? ⟨g4,7,none⟩=some (.int .i64 0):=fun V hV=>⟨(b1.fr hV id).cell 0,(b1.fr hV id).cell 1,(b1.fr hV id).cell 2,(b1.fr hV id).cell 3,(b1.fr hV id).cell 4,(b1.fr hV id).cell 5,(b1.fr hV id).cell 6,(b1.fr hV id).cell 7,(b1.fr hV id).cell 8,(b1.fr hV id).cell 9,(b2.fr hV id).cell 0,(b2.fr hV id).cell 1,(b2.fr hV id).cell 2,(b2.fr hV id).cell 3,(b2.fr hV id).cell 4,(b2.fr hV id).cell 5,(b2.fr hV id).cell 6,(b2.fr hV id).cell 7,(b3.fr hV id).cell 0,(b3.fr hV id).cell 1,(b3.fr hV id).cell 2,(b3.fr hV id).cell 3,(b3.fr hV id).cell 4,(b3.fr hV id).cell 5,(b3.fr hV id).cell 6,(b3.fr hV id).cell 7,(b3.fr hV id).cell 8,(b4.fr hV id).cell 0,(b4.fr hV id).cell 1,(b4.fr hV id).cell 2,(b4.fr hV id).cell 3,(b4.fr hV id).cell 4,(b4.fr hV id).cell 5,(b4.fr hV id).cell 6,(b4.fr hV id).cell 7⟩
 have HAL:=O hal;have fP:g1<w4.heap.size:=b1.lt;have kg:g2<w4.heap.size:=b2.lt;have ajq:g3<w4.heap.size:=b3.lt;have awp:g4<w4.heap.size:=b4.lt;have jQ:w.heap.size≤g1:=by omega
 have hlt1:g1<g2:=by omega
 have hlt2:g2<g3:=by omega
 have hlt3:g3<g4:=by omega
 have hsB:w.heap.size≤w4.heap.size:=FB4.size;obtain ⟨FB,HCX,HSX,B1_,B2_,B3_,B4_⟩:=jo FB4 hcx hsx b1 b2 b3 b4;have he2:w.heap.size+1=g2:=by omega
 have he3:w.heap.size+2=g3:=by omega
 have he4:w.heap.size+3=g4:=by omega
 clear hal fa1 fa2 fa3 fa4 b1 b2 b3 b4 FB1 FB2 FB3 FB4 hcx hsx;obtain ⟨HW1,HG1,HZ1,HW2,HG2,HZ2,HW3,HG3,HZ3,HW4,HG4,HZ4⟩:=nS hw1 hg1 hz1 hw2 hg2 hz2 hw3 hg3 hz3 hw4 hg4 hz4;obtain ⟨HE2,HE3,HE4⟩:=bC he2 he3 he4;clear he4 he3 he2 hz4 hg4 hw4 hz3 hg3 hw3 hz2 hg2 hw2 hz1 hg1 hw1
 go_in
 go_upto_region 1 with fail
 rw [←HW1.out];rw [←HW2.out];rw [←HW3.out];rw [←HW4.out]
 try rw [show w.heap.size+1+1+1=g4 from HE4.out]
 try rw [show w.heap.size+1+1=g3 from HE3.out]
 try rw [HE4.out]
 try rw [HE3.out]
 try rw [HE2.out]
 try rw [←HG1.out]
 clear HW1 HG1 HZ1 HW2 HG2 HZ2 HW3 HG3 HZ3 HW4 HG4 HZ4 HE2 HE3 HE4;obtain ⟨q0_,q1_,q2_,q3_,q4_,q5_,q6_,q7_,q8_,q9_,bJ,bI,bG,bH,bM,bL,bO,bU,dh,dB,dF,dD,dQ,dP,dO,dV,dU,fq,eZ,eY,eX,eU,eT,eP,eO⟩:=HAL.out _ (Fr.refl _ _)
 go_wp2_with fail
 refine (rO (HCX.out _ FB.out) (HSX.out _ FB.out)).mono ?_;rintro e v ⟨rfl,f_⟩;clear q0_ q1_ q2_ q3_ q4_ q5_ q6_ q7_ q8_ q9_ bJ bI bG bH bM bL bO bU dh dB dF dD dQ dP dO dV dU fq eZ eY eX eU eT eP eO;have f:=f_;clear f_;obtain ⟨q0_,q1_,q2_,q3_,q4_,q5_,q6_,q7_,q8_,q9_,bJ,bI,bG,bH,bM,bL,bO,bU,dh,dB,dF,dD,dQ,dP,dO,dV,dU,fq,eZ,eY,eX,eU,eT,eP,eO⟩:=HAL.out _ f
 go_wp2_with fail
 refine (vo (HSX.out _ (FB.out.ah f))).mono ?_;rintro e v2 ⟨⟨st2,kt2,sc2,kc2⟩,rfl,hs2,f2⟩;have hl2:=hs2.lts;simp only at hl2;have awc:=(hs2.t.cells dcd).2.1;have hsc2:=(hs2.c.cells dcd).2.1;have hfs:=f.size;clear q0_ q1_ q2_ q3_ q4_ q5_ q6_ q7_ q8_ q9_ bJ bI bG bH bM bL bO bU dh dB dF dD dQ dP dO dV dU fq eZ eY eX eU eT eP eO;have f_2:=f.ah f2;obtain ⟨q0_,q1_,q2_,q3_,q4_,q5_,q6_,q7_,q8_,q9_,bJ,bI,bG,bH,bM,bL,bO,bU,dh,dB,dF,dD,dQ,dP,dO,dV,dU,fq,eZ,eY,eX,eU,eT,eP,eO⟩:=HAL.out _ f_2;have HS2:=O hs2;clear hs2;obtain ⟨g9,hg9⟩:∃g,g=v2.heap.size:=⟨_,rfl⟩;have b9:Blk (v2.alloc (.cells #[.int .i64 0,.int .i64 1,.slice (some ⟨st2,0,none⟩) 1 kt2,.slice (some ⟨sc2,0,none⟩) 2 kc2,.int .i64 1,.int .i64 0,.int .i64 0,.int .i64 0] TSg)) g9 TSg #[.int .i64 0,.int .i64 1,.slice (some ⟨st2,0,none⟩) 1 kt2,.slice (some ⟨sc2,0,none⟩) 2 kc2,.int .i64 1,.int .i64 0,.int .i64 0,.int .i64 0]:=by rw [hg9];exact Blk.new _ _ _
 have fa9:Fr No v2 (v2.alloc (.cells #[.int .i64 0,.int .i64 1,.slice (some ⟨st2,0,none⟩) 1 kt2,.slice (some ⟨sc2,0,none⟩) 2 kc2,.int .i64 1,.int .i64 0,.int .i64 0,.int .i64 0] TSg)):=aj _ _;have aqt:g4<g9∧g1<g9∧g2<g9∧g3<g9:=by have:=f_2.size;omega
 have hx3:g3<v2.heap.size:=by have:=f_2.size;omega
 have hx4:g3≠v2.heap.size:=by omega
 obtain ⟨HG9,B9,FA9⟩:=bC hg9 b9 fa9;clear hg9 b9 fa9
 go_wp2_with fail
 rw [←HG9.out];refine (zn _).mono ?_;rintro e v3 ⟨rfl,f3⟩;have f_3:=f_2.ah (FA9.out.ah f3);obtain ⟨B10,HS3⟩:=aN (B9.out.fr f3 id) (HS2.out.au (FA9.out.ah f3));clear q0_ q1_ q2_ q3_ q4_ q5_ q6_ q7_ q8_ q9_ bJ bI bG bH bM bL bO bU dh dB dF dD dQ dP dO dV dU fq eZ eY eX eU eT eP eO f3 HS2 B9 FA9;obtain ⟨q0_,q1_,q2_,q3_,q4_,q5_,q6_,q7_,q8_,q9_,bJ,bI,bG,bH,bM,bL,bO,bU,dh,dB,dF,dD,dQ,dP,dO,dV,dU,fq,eZ,eY,eX,eU,eT,eP,eO⟩:=HAL.out _ f_3;obtain ⟨x0,x1,x2,x3,x4,x5,x6,x7⟩:=jf B10.out
 go_wp2_with fail
 refine (aa2 (HCX.out _ (FB.out.ah f_3)) HS3.out).mono ?_;rintro e v4 ⟨rfl,f4⟩;clear q0_ q1_ q2_ q3_ q4_ q5_ q6_ q7_ q8_ q9_ bJ bI bG bH bM bL bO bU dh dB dF dD dQ dP dO dV dU fq eZ eY eX eU eT eP eO x0 x1 x2 x3 x4 x5 x6 x7;obtain ⟨x0,x1,x2,x3,x4,x5,x6,x7⟩:=jf (B10.out.fr f4 id);have bz:=B4_.out.fr (f_3.ah f4) id;obtain ⟨z0,z1,z2,z3,z4,z5,z6,z7⟩:=jf bz;have q0:=bz.frozen 0;have q1:=bz.frozen 1;have q2:=bz.frozen 2;have q3:=bz.frozen 3;have q4:=bz.frozen 4;have q5:=bz.frozen 5;have q6:=bz.frozen 6;have q7:=bz.frozen 7;have BZ:=O bz;clear bz
 go_wp2_with fail
 have hfin:=kT BZ.out (HS3.out.au f4).t (HS3.out.au f4).c (show g4≠st2 by omega) (show g4≠sc2 by omega) (.int .i64 0) (.int .i64 1) (.slice (some ⟨st2,0,none⟩) 1 kt2) (.slice (some ⟨sc2,0,none⟩) 2 kc2) (.int .i64 1) (.int .i64 0) (.int .i64 0) (.int .i64 0);exact bodyPost_ret (mg 6 7 _ hfin.1 rfl rfl rfl) rfl ⟨⟨st2,kt2,sc2,kc2⟩,rfl,⟨hfin.2.1.mono fun b hb=>by omega,hfin.2.2.1.mono fun b hb=>by omega⟩,(FB.out.ah (f_3.ah f4)).aD hfin.2.2.2 fun b hb=>by have hb:b=g4:=hb;omega⟩
set_option maxHeartbeats 8000000 in
theorem oZ {bz cz bc cc bt ct bv cv br cr bo co st kt sc kc:Nat}(hc:eB w F ⟨bz,cz,bc,cc,bt,ct,bv,cv,br,cr,bo,co⟩)(hs:eD w G ⟨st,kt,sc,kc⟩ 1):Calls Tryz.prog 103 #[.agg #[.int .i64 2,.slice (some ⟨bz,0,none⟩) 2 cz,.slice (some ⟨bc,0,none⟩) 2 cc,.slice (some ⟨bt,0,none⟩) 1 ct,.slice (some ⟨bv,0,none⟩) 1 cv,.slice (some ⟨br,0,none⟩) 1 cr,.slice (some ⟨bo,0,none⟩) 1 co,.int .i64 1,.int .i64 20,.int .i64 0],.agg #[.int .i64 0,.int .i64 1,.slice (some ⟨st,0,none⟩) 1 kt,.slice (some ⟨sc,0,none⟩) 2 kc,.int .i64 1,.int .i64 0,.int .i64 0,.int .i64 0],.agg #[.int .i64 2,.int .i64 0,.int .i64 0,.int .i64 0,.int .i64 (-1),.int .i64 1,.int .i64 0,.int .i64 20,.int .i64 0]] w fun e w' =>∃s' :Sx,e= .returned (.tuple #[.agg (s'.arr 2),.int .i64 0])∧eD w' (fun b=>w.heap.size≤b) s' 2∧Fr No w w' :=by
 have hlc:=hc.lts;have hls:=hs.lts;have hcx:=fun V (hV:Fr No w V)=>hc.au hV;have hsx:=fun V (hV:Fr No w V)=>hs.au hV;clear hc hs;simp only at hlc;simp only at hls;obtain ⟨g1,w1,hg1,hw1,fa1,hz1,b1⟩:=mk1 w #[.int .i64 2,.slice (some ⟨bz,0,none⟩) 2 cz,.slice (some ⟨bc,0,none⟩) 2 cc,.slice (some ⟨bt,0,none⟩) 1 ct,.slice (some ⟨bv,0,none⟩) 1 cv,.slice (some ⟨br,0,none⟩) 1 cr,.slice (some ⟨bo,0,none⟩) 1 co,.int .i64 1,.int .i64 20,.int .i64 0] TCf;have FB1:Fr No w w1:=fa1;obtain ⟨g2,w2,hg2,hw2,fa2,hz2,b2⟩:=mk1 w1 #[.int .i64 0,.int .i64 1,.slice (some ⟨st,0,none⟩) 1 kt,.slice (some ⟨sc,0,none⟩) 2 kc,.int .i64 1,.int .i64 0,.int .i64 0,.int .i64 0] TSg;replace b1:=b1.fr fa2 id;have FB2:Fr No w w2:=FB1.ah fa2;obtain ⟨g3,w3,hg3,hw3,fa3,hz3,b3⟩:=mk1 w2 #[.int .i64 2,.int .i64 0,.int .i64 0,.int .i64 0,.int .i64 (-1),.int .i64 1,.int .i64 0,.int .i64 20,.int .i64 0] iT;replace b1:=b1.fr fa3 id;replace b2:=b2.fr fa3 id;have FB3:Fr No w w3:=FB2.ah fa3;obtain ⟨g4,w4,hg4,hw4,fa4,hz4,b4⟩:=mk1 w3 #[.int .i64 0,.int .i64 0,.slice none 0 0,.slice none 0 0,.int .i64 0,.int .i64 0,.int .i64 0,.int .i64 0] TSg;replace b1:=b1.fr fa4 id;replace b2:=b2.fr fa4 id;replace b3:=b3.fr fa4 id;have FB4:Fr No w w4:=FB3.ah fa4;have hal:∀V,Fr No w4 V→V.cell? ⟨g1,0,none⟩=some (.int .i64 2)∧V.cell? ⟨g1,1,none⟩=some (.slice (some ⟨bz,0,none⟩) 2 cz)∧V.cell? ⟨g1,2,none⟩=some (.slice (some ⟨bc,0,none⟩) 2 cc)∧V.cell? ⟨g1,3,none⟩=some (.slice (some ⟨bt,0,none⟩) 1 ct)∧V.cell? ⟨g1,4,none⟩=some (.slice (some ⟨bv,0,none⟩) 1 cv)∧V.cell? ⟨g1,5,none⟩=some (.slice (some ⟨br,0,none⟩) 1 cr)∧V.cell? ⟨g1,6,none⟩=some (.slice (some ⟨bo,0,none⟩) 1 co)∧V.cell? ⟨g1,7,none⟩=some (.int .i64 1)∧V.cell? ⟨g1,8,none⟩=some (.int .i64 20)∧V.cell? ⟨g1,9,none⟩=some (.int .i64 0)∧V.cell? ⟨g2,0,none⟩=some (.int .i64 0)∧V.cell? ⟨g2,1,none⟩=some (.int .i64 1)∧V.cell? ⟨g2,2,none⟩=some (.slice (some ⟨st,0,none⟩) 1 kt)∧V.cell? ⟨g2,3,none⟩=some (.slice (some ⟨sc,0,none⟩) 2 kc)∧V.cell? ⟨g2,4,none⟩=some (.int .i64 1)∧V.cell? ⟨g2,5,none⟩=some (.int .i64 0)∧V.cell? ⟨g2,6,none⟩=some (.int .i64 0)∧V.cell? ⟨g2,7,none⟩=some (.int .i64 0)∧V.cell? ⟨g3,0,none⟩=some (.int .i64 2)∧V.cell? ⟨g3,1,none⟩=some (.int .i64 0)∧V.cell? ⟨g3,2,none⟩=some (.int .i64 0)∧V.cell? ⟨g3,3,none⟩=some (.int .i64 0)∧V.cell? ⟨g3,4,none⟩=some (.int .i64 (-1))∧V.cell? ⟨g3,5,none⟩=some (.int .i64 1)∧V.cell? ⟨g3,6,none⟩=some (.int .i64 0)∧V.cell? ⟨g3,7,none⟩=some (.int .i64 20)∧V.cell? ⟨g3,8,none⟩=some (.int .i64 0)∧V.cell? ⟨g4,0,none⟩=some (.int .i64 0)∧V.cell? ⟨g4,1,none⟩=some (.int .i64 0)∧V.cell? ⟨g4,2,none⟩=some (.slice none 0 0)∧V.cell? ⟨g4,3,none⟩=some (.slice none 0 0)∧V.cell? ⟨g4,4,none⟩=some (.int .i64 0)∧V.cell? ⟨g4,5,none⟩=some (.int .i64 0)∧V.cell? ⟨g4,6,none⟩=some (.int .i64 0)∧V.cell? ⟨g4,7,none⟩=some (.int .i64 0):=fun V hV=>⟨(b1.fr hV id).cell 0,(b1.fr hV id).cell 1,(b1.fr hV id).cell 2,(b1.fr hV id).cell 3,(b1.fr hV id).cell 4,(b1.fr hV id).cell 5,(b1.fr hV id).cell 6,(b1.fr hV id).cell 7,(b1.fr hV id).cell 8,(b1.fr hV id).cell 9,(b2.fr hV id).cell 0,(b2.fr hV id).cell 1,(b2.fr hV id).cell 2,(b2.fr hV id).cell 3,(b2.fr hV id).cell 4,(b2.fr hV id).cell 5,(b2.fr hV id).cell 6,(b2.fr hV id).cell 7,(b3.fr hV id).cell 0,(b3.fr hV id).cell 1,(b3.fr hV id).cell 2,(b3.fr hV id).cell 3,(b3.fr hV id).cell 4,(b3.fr hV id).cell 5,(b3.fr hV id).cell 6,(b3.fr hV id).cell 7,(b3.fr hV id).cell 8,(b4.fr hV id).cell 0,(b4.fr hV id).cell 1,(b4.fr hV id).cell 2,(b4.fr hV id).cell 3,(b4.fr hV id).cell 4,(b4.fr hV id).cell 5,(b4.fr hV id).cell 6,(b4.fr hV id).cell 7⟩
 have HAL:=O hal;have fP:g1<w4.heap.size:=b1.lt;have kg:g2<w4.heap.size:=b2.lt;have ajq:g3<w4.heap.size:=b3.lt;have awp:g4<w4.heap.size:=b4.lt;have jQ:w.heap.size≤g1:=by omega
 have hlt1:g1<g2:=by omega
 have hlt2:g2<g3:=by omega
 have hlt3:g3<g4:=by omega
 have hsB:w.heap.size≤w4.heap.size:=FB4.size;obtain ⟨FB,HCX,HSX,B1_,B2_,B3_,B4_⟩:=jo FB4 hcx hsx b1 b2 b3 b4;have he2:w.heap.size+1=g2:=by omega
 have he3:w.heap.size+2=g3:=by omega
 have he4:w.heap.size+3=g4:=by omega
 clear hal fa1 fa2 fa3 fa4 b1 b2 b3 b4 FB1 FB2 FB3 FB4 hcx hsx;obtain ⟨HW1,HG1,HZ1,HW2,HG2,HZ2,HW3,HG3,HZ3,HW4,HG4,HZ4⟩:=nS hw1 hg1 hz1 hw2 hg2 hz2 hw3 hg3 hz3 hw4 hg4 hz4;obtain ⟨HE2,HE3,HE4⟩:=bC he2 he3 he4;clear he4 he3 he2 hz4 hg4 hw4 hz3 hg3 hw3 hz2 hg2 hw2 hz1 hg1 hw1
 go_in
 go_upto_region 1 with fail
 rw [←HW1.out];rw [←HW2.out];rw [←HW3.out];rw [←HW4.out]
 try rw [show w.heap.size+1+1+1=g4 from HE4.out]
 try rw [show w.heap.size+1+1=g3 from HE3.out]
 try rw [HE4.out]
 try rw [HE3.out]
 try rw [HE2.out]
 try rw [←HG1.out]
 clear HW1 HG1 HZ1 HW2 HG2 HZ2 HW3 HG3 HZ3 HW4 HG4 HZ4 HE2 HE3 HE4;obtain ⟨q0_,q1_,q2_,q3_,q4_,q5_,q6_,q7_,q8_,q9_,bJ,bI,bG,bH,bM,bL,bO,bU,dh,dB,dF,dD,dQ,dP,dO,dV,dU,fq,eZ,eY,eX,eU,eT,eP,eO⟩:=HAL.out _ (Fr.refl _ _)
 go_wp2_with fail
 refine (rM (HCX.out _ FB.out) (HSX.out _ FB.out)).mono ?_;rintro e v ⟨rfl,f_⟩;clear q0_ q1_ q2_ q3_ q4_ q5_ q6_ q7_ q8_ q9_ bJ bI bG bH bM bL bO bU dh dB dF dD dQ dP dO dV dU fq eZ eY eX eU eT eP eO;have f:=f_;clear f_;obtain ⟨q0_,q1_,q2_,q3_,q4_,q5_,q6_,q7_,q8_,q9_,bJ,bI,bG,bH,bM,bL,bO,bU,dh,dB,dF,dD,dQ,dP,dO,dV,dU,fq,eZ,eY,eX,eU,eT,eP,eO⟩:=HAL.out _ f
 go_wp2_with fail
 refine (vk (HSX.out _ (FB.out.ah f))).mono ?_;rintro e v2 ⟨⟨st2,kt2,sc2,kc2⟩,rfl,hs2,f2⟩;have hl2:=hs2.lts;simp only at hl2;have awc:=(hs2.t.cells dcd).2.1;have hsc2:=(hs2.c.cells dcd).2.1;have hfs:=f.size;clear q0_ q1_ q2_ q3_ q4_ q5_ q6_ q7_ q8_ q9_ bJ bI bG bH bM bL bO bU dh dB dF dD dQ dP dO dV dU fq eZ eY eX eU eT eP eO;have f_2:=f.ah f2;obtain ⟨q0_,q1_,q2_,q3_,q4_,q5_,q6_,q7_,q8_,q9_,bJ,bI,bG,bH,bM,bL,bO,bU,dh,dB,dF,dD,dQ,dP,dO,dV,dU,fq,eZ,eY,eX,eU,eT,eP,eO⟩:=HAL.out _ f_2;have HS2:=O hs2;clear hs2;obtain ⟨g9,hg9⟩:∃g,g=v2.heap.size:=⟨_,rfl⟩;have b9:Blk (v2.alloc (.cells #[.int .i64 0,.int .i64 2,.slice (some ⟨st2,0,none⟩) 1 kt2,.slice (some ⟨sc2,0,none⟩) 2 kc2,.int .i64 1,.int .i64 0,.int .i64 0,.int .i64 0] TSg)) g9 TSg #[.int .i64 0,.int .i64 2,.slice (some ⟨st2,0,none⟩) 1 kt2,.slice (some ⟨sc2,0,none⟩) 2 kc2,.int .i64 1,.int .i64 0,.int .i64 0,.int .i64 0]:=by rw [hg9];exact Blk.new _ _ _
 have fa9:Fr No v2 (v2.alloc (.cells #[.int .i64 0,.int .i64 2,.slice (some ⟨st2,0,none⟩) 1 kt2,.slice (some ⟨sc2,0,none⟩) 2 kc2,.int .i64 1,.int .i64 0,.int .i64 0,.int .i64 0] TSg)):=aj _ _;have aqt:g4<g9∧g1<g9∧g2<g9∧g3<g9:=by have:=f_2.size;omega
 have hx3:g3<v2.heap.size:=by have:=f_2.size;omega
 have hx4:g3≠v2.heap.size:=by omega
 obtain ⟨HG9,B9,FA9⟩:=bC hg9 b9 fa9;clear hg9 b9 fa9
 go_wp2_with fail
 rw [←HG9.out];refine (zm _).mono ?_;rintro e v3 ⟨rfl,f3⟩;have f_3:=f_2.ah (FA9.out.ah f3);obtain ⟨B10,HS3⟩:=aN (B9.out.fr f3 id) (HS2.out.au (FA9.out.ah f3));clear q0_ q1_ q2_ q3_ q4_ q5_ q6_ q7_ q8_ q9_ bJ bI bG bH bM bL bO bU dh dB dF dD dQ dP dO dV dU fq eZ eY eX eU eT eP eO f3 HS2 B9 FA9;obtain ⟨q0_,q1_,q2_,q3_,q4_,q5_,q6_,q7_,q8_,q9_,bJ,bI,bG,bH,bM,bL,bO,bU,dh,dB,dF,dD,dQ,dP,dO,dV,dU,fq,eZ,eY,eX,eU,eT,eP,eO⟩:=HAL.out _ f_3;obtain ⟨x0,x1,x2,x3,x4,x5,x6,x7⟩:=jf B10.out
 go_wp2_with fail
 refine (aa1 (HCX.out _ (FB.out.ah f_3)) HS3.out).mono ?_;rintro e v4 ⟨rfl,f4⟩;clear q0_ q1_ q2_ q3_ q4_ q5_ q6_ q7_ q8_ q9_ bJ bI bG bH bM bL bO bU dh dB dF dD dQ dP dO dV dU fq eZ eY eX eU eT eP eO x0 x1 x2 x3 x4 x5 x6 x7;obtain ⟨x0,x1,x2,x3,x4,x5,x6,x7⟩:=jf (B10.out.fr f4 id);have bz:=B4_.out.fr (f_3.ah f4) id;obtain ⟨z0,z1,z2,z3,z4,z5,z6,z7⟩:=jf bz;have q0:=bz.frozen 0;have q1:=bz.frozen 1;have q2:=bz.frozen 2;have q3:=bz.frozen 3;have q4:=bz.frozen 4;have q5:=bz.frozen 5;have q6:=bz.frozen 6;have q7:=bz.frozen 7;have BZ:=O bz;clear bz
 go_wp2_with fail
 have hfin:=kT BZ.out (HS3.out.au f4).t (HS3.out.au f4).c (show g4≠st2 by omega) (show g4≠sc2 by omega) (.int .i64 0) (.int .i64 2) (.slice (some ⟨st2,0,none⟩) 1 kt2) (.slice (some ⟨sc2,0,none⟩) 2 kc2) (.int .i64 1) (.int .i64 0) (.int .i64 0) (.int .i64 0);exact bodyPost_ret (mg 6 7 _ hfin.1 rfl rfl rfl) rfl ⟨⟨st2,kt2,sc2,kc2⟩,rfl,⟨hfin.2.1.mono fun b hb=>by omega,hfin.2.2.1.mono fun b hb=>by omega⟩,(FB.out.ah (f_3.ah f4)).aD hfin.2.2.2 fun b hb=>by have hb:b=g4:=hb;omega⟩
end
end Go.Proofs.YtodkhcbjpodgeaaGreat
