/-
  Spans: a list of one window is searched and sorted.
-/
import Derived.Test.YtodkhcbjpodgeaaGreatG49
namespace Go.Proofs.YtodkhcbjpodgeaaGreat
open Go.ChangeShapes Go.WideShapes Go.ChangeAt Go.RowKit
set_option linter.unusedVariables false
set_option maxRecDepth 100000
set_option maxHeartbeats 4000000
section
set_option linter.unusedSimpArgs false
variable {w w' :World}{F G:Nat→Prop}
abbrev ig:TypeId:=114
abbrev spL:List Value:=[.int .i64 0,.int .i64 1,.int .i64 0,.int .i64 1,.int .i64 0,.int .i64 0,.int .i64 20]
theorem adu (w:World):Calls Tryz.prog 108 #[.agg #[.int .i64 0,.int .i64 1,.int .i64 0,.int .i64 1,.int .i64 0,.int .i64 0,.int .i64 20]] w fun e w' =>e= .returned (.bool false)∧Fr No w w' :=by
 go_in
 go_wp2_with fail
 go_ret
 exact ⟨rfl,aj _ _⟩
theorem sU (w:World):Calls Tryz.prog 71 #[.agg #[.int .i64 0,.int .i64 1,.int .i64 0,.int .i64 0,.int .i64 20],.int .i64 3] w fun e w' =>e= .returned (.bool true)∧Fr No w w' :=by
 go_in
 go_wp2_with fail
 go_ret
 exact ⟨rfl,aj _ _⟩
set_option maxHeartbeats 2000000 in
theorem afj {b c:Nat}(h:aA w F ig 7 (.slice (some ⟨b,0,none⟩) 1 c) 1 spL):Calls Tryz.prog 155 #[.slice (some ⟨b,0,none⟩) 1 c,.func (.func 108) #[] #[]] w fun e w' =>e= .returned (.int .i64 (-1))∧Fr No w w' :=by
 have hc:=fun V (hV:Fr No w V)=>(h.au hV).cells dcd;have hs:∀V,Fr No w V→V.cell? ⟨b,0,none⟩=some (.int .i64 0)∧V.cell? ⟨b,1,none⟩=some (.int .i64 1)∧V.cell? ⟨b,2,none⟩=some (.int .i64 0)∧V.cell? ⟨b,3,none⟩=some (.int .i64 1)∧V.cell? ⟨b,4,none⟩=some (.int .i64 0)∧V.cell? ⟨b,5,none⟩=some (.int .i64 0)∧V.cell? ⟨b,6,none⟩=some (.int .i64 20):=fun V hV=>⟨(hc V hV).2.2 0 dcd,(hc V hV).2.2 1 dcd,(hc V hV).2.2 2 dcd,(hc V hV).2.2 3 dcd,(hc V hV).2.2 4 dcd,(hc V hV).2.2 5 dcd,(hc V hV).2.2 6 dcd⟩;have HS:=O hs;clear h hc hs
 go_in
 go_wp2_with fail
 go_loopw [8] (fun i wr=>(i= .int .i64 0∨i= .int .i64 1)∧Fr No w wr) (fun i _=>1-(intOf i).toNat)
 case atStart=>exact ⟨.inl rfl,Fr.refl _ _⟩
 obtain ⟨rfl|rfl,hf⟩:=hrel
 ·obtain ⟨x0,x1,x2,x3,x4,x5,x6⟩:=HS.out _ hf
  go_wp2_with fail
  refine (adu _).mono ?_;rintro e v ⟨rfl,f⟩
  go_wp2_with fail
  go_roundw
  case rel=>exact ⟨.inr rfl,hf.ah f⟩
  case measure=>simp [intOf]
 ·go_wp2_with fail
  go_ret
  exact ⟨rfl,hf⟩
theorem af6 {b c:Nat}(h:aA w F ig 7 (.slice (some ⟨b,0,none⟩) 1 c) 1 spL):Calls Tryz.prog 107 #[.slice (some ⟨b,0,none⟩) 1 c,.func (.func 108) #[] #[]] w fun e w' =>e= .returned (.slice (some ⟨b,0,none⟩) 1 c)∧Fr No w w' :=by
 have hi:=afj h;have HI:=O hi;clear h hi
 go_in
 go_wp2_with fail
 refine HI.out.mono ?_;rintro e v ⟨rfl,f⟩
 go_wp2_with fail
 go_ret
 exact ⟨rfl,f⟩
theorem ajc (w:World):Calls Tryz.prog 222 #[.int .u64 1] w fun e w' =>∃x:Int,e= .returned (.int .i64 x)∧w=w' :=by
 go_in
 go_wp2_with fail
 go_ret
 exact ⟨_,rfl,rfl⟩
theorem apz (w:World):Calls Tryz.prog 157 #[.int .u64 1] w fun e w' =>∃x:Int,e= .returned (.int .i64 x)∧w=w' :=by
 go_in
 go_wp2_with fail
 refine (ajc _).mono ?_;rintro e w' ⟨x,rfl,rfl⟩
 go_wp2_with fail
 go_ret
 exact ⟨_,rfl,rfl⟩
theorem aqa (w:World)(v f:Value):Calls Tryz.prog 213 #[v,.int .i64 0,.int .i64 1,f] w fun e w' =>e= .returned (.tuple #[])∧w=w' :=by
 go_in
 go_wp2_with fail
 go_loopw [8] (fun i wr=>i= .int .i64 1∧wr=w) (fun _ _=>0)
 case atStart=>exact ⟨rfl,rfl⟩
 obtain ⟨rfl,rfl⟩:=hrel
 go_wp2_with fail
 exact bodyPost_end (results_none rfl _ _ _) rfl ⟨rfl,rfl⟩
set_option maxHeartbeats 2000000 in
theorem apu (w:World)(v f:Value)(x:Int):Calls Tryz.prog 156 #[v,.int .i64 0,.int .i64 1,.int .i64 x,f] w fun e w' =>e= .returned (.tuple #[])∧w=w' :=by
 go_in
 go_wp2_with fail
 go_loopw [1,2,3] (fun a b l wr=>a= .int .i64 0∧b= .int .i64 1∧wr=w) (fun _ _ _ _=>0)
 case atStart=>exact ⟨rfl,rfl,rfl⟩
 obtain ⟨rfl,rfl,rfl⟩:=hrel
 go_wp2_with fail
 refine (aqa _ _ _).mono ?_;rintro e w' ⟨rfl,rfl⟩
 go_wp2_with fail
 first
  |exact bodyPost_end (results_none rfl _ _ _) rfl ⟨rfl,rfl⟩
  |exact bodyPost_ret (results_none rfl _ _ _) rfl ⟨rfl,rfl⟩
theorem ald (w:World)(A:Option Addr)(c:Nat)(f:Value):Calls Tryz.prog 109 #[.slice A 1 c,f] w fun e w' =>e= .returned (.tuple #[])∧w=w' :=by
 go_in
 go_wp2_with fail
 refine (apz _).mono ?_;rintro e w' ⟨x,rfl,rfl⟩
 go_wp2_with fail
 refine (apu _ _ _ _).mono ?_;rintro e w' ⟨rfl,rfl⟩
 go_wp2_with fail
 exact bodyPost_end (results_none rfl _ _ _) rfl ⟨rfl,rfl⟩
end
section
set_option linter.unusedSimpArgs false
variable {w w' :World}{F G:Nat→Prop}
theorem tY {f:Func}(k j l:Nat){g:Nat}(ts:Array Value){a0 a1 a2 a3 a4 a5 a6 a7 e1 e2:Value}{W:World}(hb:Blk W g TSg #[a0,a1,a2,a3,a4,a5,a6,a7])(h2:ts[k]?.getD undef= .pointer (some ⟨g,0,none⟩))(h3:ts[j]?.getD undef=e1)(h4:ts[l]?.getD undef=e2)(hr:f.results= #[.cell k TSg,.tmp j,.tmp l]):(results f ts).run Tryz.prog W= .ok (.tuple #[.agg #[a0,a1,a2,a3,a4,a5,a6,a7],e1,e2]) W:=by
 obtain ⟨c0,c1,c2,c3,c4,c5,c6,c7⟩:=jf hb
 simp [results,hr,go_sem,h2,h3,h4,c0,c1,c2,c3,c4,c5,c6,c7]
set_option maxHeartbeats 8000000 in
theorem afv {bz cz bc cc bt ct bv cv br cr bo co:Nat}(hc:eB w F ⟨bz,cz,bc,cc,bt,ct,bv,cv,br,cr,bo,co⟩){be ec:Nat}{H:Nat→Prop}(hen:aA w H TEq 9 (.slice (some ⟨be,0,none⟩) 2 ec) 2 [.int .i64 1,.int .i64 0,.int .i64 0,.int .i64 0,.int .i64 1,.int .i64 0,.int .i64 0,.int .i64 0,.int .i64 0,.int .i64 2,.int .i64 0,.int .i64 0,.int .i64 0,.int .i64 (-1),.int .i64 1,.int .i64 0,.int .i64 20,.int .i64 0]):Calls Tryz.prog 105 #[.agg #[.int .i64 2,.slice (some ⟨bz,0,none⟩) 2 cz,.slice (some ⟨bc,0,none⟩) 2 cc,.slice (some ⟨bt,0,none⟩) 1 ct,.slice (some ⟨bv,0,none⟩) 1 cv,.slice (some ⟨br,0,none⟩) 1 cr,.slice (some ⟨bo,0,none⟩) 1 co,.int .i64 1,.int .i64 20,.int .i64 0],.slice (some ⟨be,0,none⟩) 2 ec] w fun e w' =>∃s' :Sx,e= .returned (.tuple #[.agg (s'.arr 2),.int .i64 2,.int .i64 0])∧Fr No w w' :=by
 have hlc:=hc.lts;have hcx:=fun V (hV:Fr No w V)=>hc.au hV;clear hc;simp only at hlc;obtain ⟨g1,w1,hg1,hw1,fa1,hz1,b1⟩:=mk1 w #[.int .i64 2,.slice (some ⟨bz,0,none⟩) 2 cz,.slice (some ⟨bc,0,none⟩) 2 cc,.slice (some ⟨bt,0,none⟩) 1 ct,.slice (some ⟨bv,0,none⟩) 1 cv,.slice (some ⟨br,0,none⟩) 1 cr,.slice (some ⟨bo,0,none⟩) 1 co,.int .i64 1,.int .i64 20,.int .i64 0] TCf;have FB1:Fr No w w1:=fa1;obtain ⟨g2,w2,hg2,hw2,fa2,hz2,b2⟩:=mk1 w1 #[.int .i64 0,.int .i64 0,.slice none 0 0,.slice none 0 0,.int .i64 0,.int .i64 0,.int .i64 0,.int .i64 0] TSg;replace b1:=b1.fr fa2 id;have FB2:Fr No w w2:=FB1.ah fa2;have hal:∀V,Fr No w2 V→V.cell? ⟨g1,0,none⟩=some (.int .i64 2)∧V.cell? ⟨g1,1,none⟩=some (.slice (some ⟨bz,0,none⟩) 2 cz)∧V.cell? ⟨g1,2,none⟩=some (.slice (some ⟨bc,0,none⟩) 2 cc)∧V.cell? ⟨g1,3,none⟩=some (.slice (some ⟨bt,0,none⟩) 1 ct)∧V.cell? ⟨g1,4,none⟩=some (.slice (some ⟨bv,0,none⟩) 1 cv)∧V.cell? ⟨g1,5,none⟩=some (.slice (some ⟨br,0,none⟩) 1 cr)∧V.cell? ⟨g1,6,none⟩=some (.slice (some ⟨bo,0,none⟩) 1 co)∧V.cell? ⟨g1,7,none⟩=some (.int .i64 1)∧V.cell? ⟨g1,8,none⟩=some (.int .i64 20)∧V.cell? ⟨g1,9,none⟩=some (.int .i64 0)∧V.cell? ⟨g2,0,none⟩=some (.int .i64 0)∧V.cell? ⟨g2,1,none⟩=some (.int .i64 0)∧V.cell? ⟨g2,2,none⟩=some (.slice none 0 0)∧V.cell? ⟨g2,3,none⟩=some (.slice none 0 0)∧V.cell? ⟨g2,4,none⟩=some (.int .i64 0)∧V.cell? ⟨g2,5,none⟩=some (.int .i64 0)∧V.cell? ⟨g2,6,none⟩=some (.int .i64 0)∧V.cell? ⟨g2,7,none⟩=some (.int .i64 0):=fun V hV=>⟨(b1.fr hV id).cell 0,(b1.fr hV id).cell 1,(b1.fr hV id).cell 2,(b1.fr hV id).cell 3,(b1.fr hV id).cell 4,(b1.fr hV id).cell 5,(b1.fr hV id).cell 6,(b1.fr hV id).cell 7,(b1.fr hV id).cell 8,(b1.fr hV id).cell 9,(b2.fr hV id).cell 0,(b2.fr hV id).cell 1,(b2.fr hV id).cell 2,(b2.fr hV id).cell 3,(b2.fr hV id).cell 4,(b2.fr hV id).cell 5,(b2.fr hV id).cell 6,(b2.fr hV id).cell 7⟩
 have HAL:=O hal;have fP:g1<w2.heap.size:=b1.lt;have kg:g2<w2.heap.size:=b2.lt;have jQ:w.heap.size≤g1:=by omega
 have hlt1:g1<g2:=by omega
 have hsB:w.heap.size≤w2.heap.size:=FB2.size;obtain ⟨FB,HCX,B1_,B2_⟩:=fV FB2 hcx b1 b2;have hel:=(hen.cells dcd).1;have aty:=hen.cap;have hec:=fun V (hV:Fr No w V)=>(hen.au hV).cells dcd;have hef:∀V,Fr No w V→V.cell? ⟨be,0,none⟩=some (.int .i64 1)∧V.cell? ⟨be,1,none⟩=some (.int .i64 0)∧V.cell? ⟨be,2,none⟩=some (.int .i64 0)∧V.cell? ⟨be,3,none⟩=some (.int .i64 0)∧V.cell? ⟨be,4,none⟩=some (.int .i64 1)∧V.cell? ⟨be,5,none⟩=some (.int .i64 0)∧V.cell? ⟨be,6,none⟩=some (.int .i64 0)∧V.cell? ⟨be,7,none⟩=some (.int .i64 0)∧V.cell? ⟨be,8,none⟩=some (.int .i64 0)∧V.cell? ⟨be,9,none⟩=some (.int .i64 2)∧V.cell? ⟨be,10,none⟩=some (.int .i64 0)∧V.cell? ⟨be,11,none⟩=some (.int .i64 0)∧V.cell? ⟨be,12,none⟩=some (.int .i64 0)∧V.cell? ⟨be,13,none⟩=some (.int .i64 (-1))∧V.cell? ⟨be,14,none⟩=some (.int .i64 1)∧V.cell? ⟨be,15,none⟩=some (.int .i64 0)∧V.cell? ⟨be,16,none⟩=some (.int .i64 20)∧V.cell? ⟨be,17,none⟩=some (.int .i64 0):=fun V hV=>⟨(hec V hV).2.2 0 dcd,(hec V hV).2.2 1 dcd,(hec V hV).2.2 2 dcd,(hec V hV).2.2 3 dcd,(hec V hV).2.2 4 dcd,(hec V hV).2.2 5 dcd,(hec V hV).2.2 6 dcd,(hec V hV).2.2 7 dcd,(hec V hV).2.2 8 dcd,(hec V hV).2.2 9 dcd,(hec V hV).2.2 10 dcd,(hec V hV).2.2 11 dcd,(hec V hV).2.2 12 dcd,(hec V hV).2.2 13 dcd,(hec V hV).2.2 14 dcd,(hec V hV).2.2 15 dcd,(hec V hV).2.2 16 dcd,(hec V hV).2.2 17 dcd⟩;have HEF:=O hef;clear hec hef hen;have he2:w.heap.size+1=g2:=by omega
 clear hal fa1 fa2 b1 b2 FB1 FB2 hcx;obtain ⟨HW1,HG1,HZ1,HW2,HG2,HZ2,HE2⟩:=jo hw1 hg1 hz1 hw2 hg2 hz2 he2;clear he2 hz2 hg2 hw2 hz1 hg1 hw1
 go_in
 go_upto_region 1 with fail
 rw [←HW1.out];rw [←HW2.out]
 try rw [HE2.out]
 try rw [←HG1.out]
 clear HW1 HG1 HZ1 HW2 HG2 HZ2 HE2;obtain ⟨q0_,q1_,q2_,q3_,q4_,q5_,q6_,q7_,q8_,q9_,bJ,bI,bG,bH,bM,bL,bO,bU⟩:=HAL.out _ (Fr.refl _ _)
 go_wp2_with fail
 refine (vX (HCX.out _ FB.out)).mono ?_;rintro e v ⟨⟨t1,t2,t3,t4⟩,rfl,hs,f⟩;clear q0_ q1_ q2_ q3_ q4_ q5_ q6_ q7_ q8_ q9_ bJ bI bG bH bM bL bO bU;obtain ⟨g7,hg7⟩:∃g,g=v.heap.size:=⟨_,rfl⟩;have hfs:=f.size;have f7:Fr No w2 (v.alloc (.cells #[.int .i64 0,.int .i64 0,.slice (some ⟨t1,0,none⟩) 1 t2,.slice (some ⟨t3,0,none⟩) 2 t4,.int .i64 1,.int .i64 0,.int .i64 0,.int .i64 0] TSg)):=f.alloc _;have b7:Blk (v.alloc (.cells #[.int .i64 0,.int .i64 0,.slice (some ⟨t1,0,none⟩) 1 t2,.slice (some ⟨t3,0,none⟩) 2 t4,.int .i64 1,.int .i64 0,.int .i64 0,.int .i64 0] TSg)) g7 TSg #[.int .i64 0,.int .i64 0,.slice (some ⟨t1,0,none⟩) 1 t2,.slice (some ⟨t3,0,none⟩) 2 t4,.int .i64 1,.int .i64 0,.int .i64 0,.int .i64 0]:=by rw [hg7];exact Blk.new _ _ _
 have s7:eD (v.alloc (.cells #[.int .i64 0,.int .i64 0,.slice (some ⟨t1,0,none⟩) 1 t2,.slice (some ⟨t3,0,none⟩) 2 t4,.int .i64 1,.int .i64 0,.int .i64 0,.int .i64 0] TSg)) (fun b=>b≠g7) ⟨t1,t2,t3,t4⟩ 0:=((hs.old).au (aj _ _)).mono fun b hb=>by omega
 have azd:w2.heap.size≤g7:=by omega
 obtain ⟨HG7,HF7,HB7,HS7⟩:=fV hg7 f7 b7 s7;clear f hs hg7 f7 b7 s7
 go_wp2_with fail
 rw [←HG7.out]
 go_loopw [16] (fun i wr=>∃(k:Nat) (s' :Sx),k≤2∧i= .int .i64 k∧Blk wr g7 TSg (s'.arr k)∧eD wr (fun b=>b≠g7) s' k∧Fr No w2 wr) (fun i _=>2-(intOf i).toNat)
 case atStart=>exact ⟨0,⟨t1,t2,t3,t4⟩,by decide,rfl,HB7.out,HS7.out,HF7.out⟩
 clear HB7 HS7 HF7 HG7;obtain ⟨k,⟨t1,t2,t3,t4⟩,hk,rfl,hb,hs,hf⟩:=hrel;have hbl:=hb.lt;have hbe:be<wr.heap.size:=by have:=(FB.out.ah hf).size;omega
 obtain rfl|rfl|rfl:k=0∨k=1∨k=2:=by omega
 ·obtain ⟨q0_,q1_,q2_,q3_,q4_,q5_,q6_,q7_,q8_,q9_,bJ,bI,bG,bH,bM,bL,bO,bU⟩:=HAL.out _ hf
  obtain ⟨n0,n1,n2,n3,n4,n5,n6,n7,n8,n9,n10,n11,n12,n13,n14,n15,n16,n17⟩:=HEF.out _ (FB.out.ah hf);obtain ⟨x0,x1,x2,x3,x4,x5,x6,x7⟩:=jf hb;clear bJ bI bG bH bM bL bO bU n9 n10 n11 n12 n13 n14 n15 n16 n17;obtain ⟨HB,HS,HF⟩:=bC hb hs hf;clear hb hs hf;have awu:g1<wr.heap.size:=nll fP HF.out.size;have aws:g2<wr.heap.size:=nll kg HF.out.size
  go_wp2_with fail
  refine (pz (HCX.out _ ((FB.out.ah HF.out).alloc _)) (HS.out.au (aj _ _))).mono ?_;rintro e v2 ⟨⟨r1,r2,r3,r4⟩,rfl,hs2,f2⟩;have ha:=(aj wr (.cells #[.int .i64 1,.int .i64 0,.int .i64 0,.int .i64 0,.int .i64 1,.int .i64 0,.int .i64 0,.int .i64 0,.int .i64 0] iT)).ah f2;have b2:=HB.out.fr ha id;clear q0_ q1_ q2_ q3_ q4_ q5_ q6_ q7_ q8_ q9_ n0 n1 n2 n3 n4 n5 n6 n7 n8 x0 x1 x2 x3 x4 x5 x6 x7;have hf2:Fr No w2 v2:=HF.out.ah ha;obtain ⟨x0,x1,x2,x3,x4,x5,x6,x7⟩:=jf b2;have hfz:=oW b2;have z0:=hfz 0;have z1:=hfz 1;have z2:=hfz 2;have z3:=hfz 3;have z4:=hfz 4;have z5:=hfz 5;have z6:=hfz 6;have z7:=hfz 7;have awq:g7<v2.heap.size:=b2.lt;have hq:=vV (B:=0) (s' :=⟨r1,r2,r3,r4⟩) b2 (Nat.zero_le _) (hs2.mono fun b hb=>by simp at hb;omega);obtain ⟨HQ,HF2⟩:=aN hq hf2;clear hq hf2 hs2 f2 ha b2 hfz
  go_wp2_with fail
  have hq:=HQ.out;clear HQ x0 x1 x2 x3 x4 x5 x6 x7 z0 z1 z2 z3 z4 z5 z6 z7;generalize World.setCell (World.setCell (World.setCell (World.setCell (World.setCell (World.setCell (World.setCell (World.setCell v2 _ _) _ _) _ _) _ _) _ _) _ _) _ _) _ _=W5 at hq ⊢;obtain ⟨q1,q2,q3⟩:=hq;have f5:Fr No w2 W5:=HF2.out.aD q3 fun b hb=>by have hb:b=g7:=hb;omega
  go_roundw
  case rel=>
   first
    |exact ⟨1,⟨r1,r2,r3,r4⟩,by decide,rfl,q1.fr (aj _ _) id,(q2.au (aj _ _)).mono fun b hb=>hb.2,f5.alloc _⟩
    |exact ⟨1,⟨r1,r2,r3,r4⟩,by decide,rfl,q1,q2.mono fun b hb=>hb.2,f5⟩
  case measure=>simp [intOf]
 ·obtain ⟨q0_,q1_,q2_,q3_,q4_,q5_,q6_,q7_,q8_,q9_,bJ,bI,bG,bH,bM,bL,bO,bU⟩:=HAL.out _ hf
  obtain ⟨n0,n1,n2,n3,n4,n5,n6,n7,n8,n9,n10,n11,n12,n13,n14,n15,n16,n17⟩:=HEF.out _ (FB.out.ah hf);obtain ⟨x0,x1,x2,x3,x4,x5,x6,x7⟩:=jf hb;clear bJ bI bG bH bM bL bO bU n0 n1 n2 n3 n4 n5 n6 n7 n8;obtain ⟨HB,HS,HF⟩:=bC hb hs hf;clear hb hs hf;have awu:g1<wr.heap.size:=nll fP HF.out.size;have aws:g2<wr.heap.size:=nll kg HF.out.size
  go_wp2_with fail
  refine (oZ (HCX.out _ ((FB.out.ah HF.out).alloc _)) (HS.out.au (aj _ _))).mono ?_;rintro e v2 ⟨⟨r1,r2,r3,r4⟩,rfl,hs2,f2⟩;have ha:=(aj wr (.cells #[.int .i64 2,.int .i64 0,.int .i64 0,.int .i64 0,.int .i64 (-1),.int .i64 1,.int .i64 0,.int .i64 20,.int .i64 0] iT)).ah f2;have b2:=HB.out.fr ha id;clear q0_ q1_ q2_ q3_ q4_ q5_ q6_ q7_ q8_ q9_ n9 n10 n11 n12 n13 n14 n15 n16 n17 x0 x1 x2 x3 x4 x5 x6 x7;have hf2:Fr No w2 v2:=HF.out.ah ha;obtain ⟨x0,x1,x2,x3,x4,x5,x6,x7⟩:=jf b2;have hfz:=oW b2;have z0:=hfz 0;have z1:=hfz 1;have z2:=hfz 2;have z3:=hfz 3;have z4:=hfz 4;have z5:=hfz 5;have z6:=hfz 6;have z7:=hfz 7;have awq:g7<v2.heap.size:=b2.lt;have hq:=vV (B:=0) (s' :=⟨r1,r2,r3,r4⟩) b2 (Nat.zero_le _) (hs2.mono fun b hb=>by simp at hb;omega);obtain ⟨HQ,HF2⟩:=aN hq hf2;clear hq hf2 hs2 f2 ha b2 hfz
  go_wp2_with fail
  have hq:=HQ.out;clear HQ x0 x1 x2 x3 x4 x5 x6 x7 z0 z1 z2 z3 z4 z5 z6 z7;generalize World.setCell (World.setCell (World.setCell (World.setCell (World.setCell (World.setCell (World.setCell (World.setCell v2 _ _) _ _) _ _) _ _) _ _) _ _) _ _) _ _=W5 at hq ⊢;obtain ⟨q1,q2,q3⟩:=hq;have f5:Fr No w2 W5:=HF2.out.aD q3 fun b hb=>by have hb:b=g7:=hb;omega
  go_roundw
  case rel=>
   first
    |exact ⟨2,⟨r1,r2,r3,r4⟩,by decide,rfl,q1.fr (aj _ _) id,(q2.au (aj _ _)).mono fun b hb=>hb.2,f5.alloc _⟩
    |exact ⟨2,⟨r1,r2,r3,r4⟩,by decide,rfl,q1,q2.mono fun b hb=>hb.2,f5⟩
  case measure=>simp [intOf]
 ·obtain ⟨x0,x1,x2,x3,x4,x5,x6,x7⟩:=jf hb
  have bz:=B2_.out.fr hf id;obtain ⟨z0,z1,z2,z3,z4,z5,z6,z7⟩:=jf bz;have hfz:=oW bz;have y0:=hfz 0;have y1:=hfz 1;have y2:=hfz 2;have y3:=hfz 3;have y4:=hfz 4;have y5:=hfz 5;have y6:=hfz 6;have y7:=hfz 7;have hbz:=((((((((bz.aC 0 (.int .i64 0)).aC 1 (.int .i64 2)).aC 2 (.slice (some ⟨t1,0,none⟩) 1 t2)).aC 3 (.slice (some ⟨t3,0,none⟩) 2 t4)).aC 4 (.int .i64 1)).aC 5 (.int .i64 0)).aC 6 (.int .i64 0)).aC 7 (.int .i64 0));have hfw:=(((((((((Fr.refl (fun b=>b=g2) wr).setCell (p:=⟨g2,0,none⟩) (.inl rfl) (.int .i64 0)).setCell (p:=⟨g2,1,none⟩) (.inl rfl) (.int .i64 2)).setCell (p:=⟨g2,2,none⟩) (.inl rfl) (.slice (some ⟨t1,0,none⟩) 1 t2)).setCell (p:=⟨g2,3,none⟩) (.inl rfl) (.slice (some ⟨t3,0,none⟩) 2 t4)).setCell (p:=⟨g2,4,none⟩) (.inl rfl) (.int .i64 1)).setCell (p:=⟨g2,5,none⟩) (.inl rfl) (.int .i64 0)).setCell (p:=⟨g2,6,none⟩) (.inl rfl) (.int .i64 0)).setCell (p:=⟨g2,7,none⟩) (.inl rfl) (.int .i64 0));have hz8:Blk (World.setCell (World.setCell (World.setCell (World.setCell (World.setCell (World.setCell (World.setCell (World.setCell wr ⟨g2,0,none⟩ (.int .i64 0)) ⟨g2,1,none⟩ (.int .i64 2)) ⟨g2,2,none⟩ (.slice (some ⟨t1,0,none⟩) 1 t2)) ⟨g2,3,none⟩ (.slice (some ⟨t3,0,none⟩) 2 t4)) ⟨g2,4,none⟩ (.int .i64 1)) ⟨g2,5,none⟩ (.int .i64 0)) ⟨g2,6,none⟩ (.int .i64 0)) ⟨g2,7,none⟩ (.int .i64 0)) g2 TSg #[.int .i64 0,.int .i64 2,.slice (some ⟨t1,0,none⟩) 1 t2,.slice (some ⟨t3,0,none⟩) 2 t4,.int .i64 1,.int .i64 0,.int .i64 0,.int .i64 0]:=Blk.cv hbz (by simp);obtain ⟨HZ,HFW,HF⟩:=bC hz8 hfw hf
  clear hz8 hbz hfw hf hb hs bz hfz
  go_wp2_with fail
  exact bodyPost_ret (tY 4 5 6 _ HZ.out rfl rfl rfl rfl) rfl ⟨⟨⟨t1,t2,t3,t4⟩,rfl⟩,(FB.out.ah HF.out).aD HFW.out fun b hb=>by have hb:b=g2:=hb;omega⟩
end
section
set_option linter.unusedSimpArgs false
variable {w w' :World}{F G:Nat→Prop}
theorem nY:(Tryz.prog.info? ig).map (fun i=>(i.zero.map fun z=>z.cells.size,i.size,i.bytes))=some (some 7,7,56):=by kernel_rfl
theorem xO:(Tryz.prog.info? iT).map (fun i=>(i.zero.map fun z=>z.cells.size,i.size,i.bytes))=some (some 9,9,72):=by kernel_rfl
set_option maxHeartbeats 8000000 in
theorem tN {bz cz bc cc bt ct bv cv br cr bo co:Nat}(hc:eB w F ⟨bz,cz,bc,cc,bt,ct,bv,cv,br,cr,bo,co⟩){be ec:Nat}{H:Nat→Prop}(hen:aA w H TEq 9 (.slice (some ⟨be,0,none⟩) 2 ec) 2 [.int .i64 1,.int .i64 0,.int .i64 0,.int .i64 0,.int .i64 1,.int .i64 0,.int .i64 0,.int .i64 0,.int .i64 0,.int .i64 2,.int .i64 0,.int .i64 0,.int .i64 0,.int .i64 (-1),.int .i64 1,.int .i64 0,.int .i64 20,.int .i64 0]):Calls Tryz.prog 70 #[.agg #[.int .i64 2,.slice (some ⟨bz,0,none⟩) 2 cz,.slice (some ⟨bc,0,none⟩) 2 cc,.slice (some ⟨bt,0,none⟩) 1 ct,.slice (some ⟨bv,0,none⟩) 1 cv,.slice (some ⟨br,0,none⟩) 1 cr,.slice (some ⟨bo,0,none⟩) 1 co,.int .i64 1,.int .i64 20,.int .i64 0],.slice (some ⟨be,0,none⟩) 2 ec] w fun e w' =>∃b c',e= .returned (.slice (some ⟨b,0,none⟩) 1 c')∧aA w' (fun i=>w.heap.size≤i) ig 7 (.slice (some ⟨b,0,none⟩) 1 c') 1 spL∧Fr No w w' :=by
 have hlc:=hc.lts;have hcx:=fun V (hV:Fr No w V)=>hc.au hV;clear hc;simp only at hlc;obtain ⟨g1,w1,hg1,hw1,fa1,hz1,b1⟩:=mk1 w #[.int .i64 2,.slice (some ⟨bz,0,none⟩) 2 cz,.slice (some ⟨bc,0,none⟩) 2 cc,.slice (some ⟨bt,0,none⟩) 1 ct,.slice (some ⟨bv,0,none⟩) 1 cv,.slice (some ⟨br,0,none⟩) 1 cr,.slice (some ⟨bo,0,none⟩) 1 co,.int .i64 1,.int .i64 20,.int .i64 0] TCf;have FB1:Fr No w w1:=fa1;have hal:∀V,Fr No w1 V→V.cell? ⟨g1,0,none⟩=some (.int .i64 2)∧V.cell? ⟨g1,1,none⟩=some (.slice (some ⟨bz,0,none⟩) 2 cz)∧V.cell? ⟨g1,2,none⟩=some (.slice (some ⟨bc,0,none⟩) 2 cc)∧V.cell? ⟨g1,3,none⟩=some (.slice (some ⟨bt,0,none⟩) 1 ct)∧V.cell? ⟨g1,4,none⟩=some (.slice (some ⟨bv,0,none⟩) 1 cv)∧V.cell? ⟨g1,5,none⟩=some (.slice (some ⟨br,0,none⟩) 1 cr)∧V.cell? ⟨g1,6,none⟩=some (.slice (some ⟨bo,0,none⟩) 1 co)∧V.cell? ⟨g1,7,none⟩=some (.int .i64 1)∧V.cell? ⟨g1,8,none⟩=some (.int .i64 20)∧V.cell? ⟨g1,9,none⟩=some (.int .i64 0):=fun V hV=>⟨(b1.fr hV id).cell 0,(b1.fr hV id).cell 1,(b1.fr hV id).cell 2,(b1.fr hV id).cell 3,(b1.fr hV id).cell 4,(b1.fr hV id).cell 5,(b1.fr hV id).cell 6,(b1.fr hV id).cell 7,(b1.fr hV id).cell 8,(b1.fr hV id).cell 9⟩;have HAL:=O hal;have fP:g1<w1.heap.size:=b1.lt;have jQ:w.heap.size≤g1:=by omega
 have hsB:w.heap.size≤w1.heap.size:=FB1.size;obtain ⟨FB,HCX,B1_⟩:=bC FB1 hcx b1;have uO:=fun V (hV:Fr No w V)=>hen.au hV;have HEN:=O uO;clear uO;have hel:=(hen.cells dcd).1;have aty:=hen.cap;have hec:=fun V (hV:Fr No w V)=>(hen.au hV).cells dcd;have hef:∀V,Fr No w V→V.cell? ⟨be,0,none⟩=some (.int .i64 1)∧V.cell? ⟨be,1,none⟩=some (.int .i64 0)∧V.cell? ⟨be,2,none⟩=some (.int .i64 0)∧V.cell? ⟨be,3,none⟩=some (.int .i64 0)∧V.cell? ⟨be,4,none⟩=some (.int .i64 1)∧V.cell? ⟨be,5,none⟩=some (.int .i64 0)∧V.cell? ⟨be,6,none⟩=some (.int .i64 0)∧V.cell? ⟨be,7,none⟩=some (.int .i64 0)∧V.cell? ⟨be,8,none⟩=some (.int .i64 0)∧V.cell? ⟨be,9,none⟩=some (.int .i64 2)∧V.cell? ⟨be,10,none⟩=some (.int .i64 0)∧V.cell? ⟨be,11,none⟩=some (.int .i64 0)∧V.cell? ⟨be,12,none⟩=some (.int .i64 0)∧V.cell? ⟨be,13,none⟩=some (.int .i64 (-1))∧V.cell? ⟨be,14,none⟩=some (.int .i64 1)∧V.cell? ⟨be,15,none⟩=some (.int .i64 0)∧V.cell? ⟨be,16,none⟩=some (.int .i64 20)∧V.cell? ⟨be,17,none⟩=some (.int .i64 0):=fun V hV=>⟨(hec V hV).2.2 0 dcd,(hec V hV).2.2 1 dcd,(hec V hV).2.2 2 dcd,(hec V hV).2.2 3 dcd,(hec V hV).2.2 4 dcd,(hec V hV).2.2 5 dcd,(hec V hV).2.2 6 dcd,(hec V hV).2.2 7 dcd,(hec V hV).2.2 8 dcd,(hec V hV).2.2 9 dcd,(hec V hV).2.2 10 dcd,(hec V hV).2.2 11 dcd,(hec V hV).2.2 12 dcd,(hec V hV).2.2 13 dcd,(hec V hV).2.2 14 dcd,(hec V hV).2.2 15 dcd,(hec V hV).2.2 16 dcd,(hec V hV).2.2 17 dcd⟩;have HEF:=O hef;clear hec hef hen;clear hal fa1 b1 FB1 hcx;obtain ⟨HW1,HG1,HZ1⟩:=bC hw1 hg1 hz1;clear hz1 hg1 hw1
 go_in
 go_upto_region 1 with fail
 rw [←HW1.out]
 try rw [←HG1.out]
 clear HW1 HG1 HZ1;obtain ⟨q0_,q1_,q2_,q3_,q4_,q5_,q6_,q7_,q8_,q9_⟩:=HAL.out _ (Fr.refl _ _);obtain ⟨ie,ze,hie,hze,_⟩:=dY xO;have hsl:=fun W=>rD (P:=Tryz.prog) 117 iT Tryz.underlying117 ie hie be 2 ec 2 aty.1 W;have HIE:=O hie;clear hie hze
 go_wp2_with fail
 refine (afv (HCX.out _ FB.out) (HEN.out _ FB.out)).mono ?_;rintro e v ⟨⟨s1,s2,s3,s4⟩,rfl,f⟩;clear q0_ q1_ q2_ q3_ q4_ q5_ q6_ q7_ q8_ q9_;have f0:Fr No w1 (v.alloc (.cells (Sx.arr ⟨s1,s2,s3,s4⟩ 2) TSg)):=f.alloc _;have HF0:=O f0;have hfs:=f.size;clear f0
 go_wp2_with fail
 go_loopw [8,23] (fun x i wr=>((x= .slice none 0 0∧(i= .int .i64 0∨i= .int .i64 1))∨(i= .int .i64 2∧∃b c',x= .slice (some ⟨b,0,none⟩) 1 c'∧aA wr (fun j=>w1.heap.size≤j) ig 7 (.slice (some ⟨b,0,none⟩) 1 c') 1 spL))∧Fr No w1 wr) (fun _ i _=>2-(intOf i).toNat)
 case atStart=>exact ⟨.inl ⟨rfl,.inl rfl⟩,HF0.out⟩
 obtain ⟨⟨rfl,rfl|rfl⟩|⟨rfl,b,c',rfl,ho⟩,hf⟩:=hrel
 ·obtain ⟨n0,n1,n2,n3,n4,n5,n6,n7,n8,n9,n10,n11,n12,n13,n14,n15,n16,n17⟩:=HEF.out _ (FB.out.ah hf)
  clear n9 n10 n11 n12 n13 n14 n15 n16 n17;have hbe:be<wr.heap.size:=by have:=(FB.out.ah hf).size;omega
  go_wp2_with fail
  go_roundw
  case rel=>exact ⟨.inl ⟨rfl,.inr rfl⟩,hf.alloc _⟩
  case measure=>simp [intOf]
 ·obtain ⟨n0,n1,n2,n3,n4,n5,n6,n7,n8,n9,n10,n11,n12,n13,n14,n15,n16,n17⟩:=HEF.out _ (FB.out.ah hf)
  clear n0 n1 n2 n3 n4 n5 n6 n7 n8;have hbe:be<wr.heap.size:=by have:=(FB.out.ah hf).size;omega
  obtain ⟨i1,z1,hi1,hz0,hz,hz1,hz2⟩:=dY nY;have hrd:Rd (((wr.alloc (.cells #[.int .i64 2,.int .i64 0,.int .i64 0,.int .i64 0,.int .i64 (-1),.int .i64 1,.int .i64 0,.int .i64 20,.int .i64 0] iT)).alloc (.cells #[.int .i64 0,.int .i64 1,.int .i64 0,.int .i64 0,.int .i64 20] nK)).alloc (.cells spL.toArray ig)) (wr.heap.size+1+1+1) (some ⟨wr.heap.size+1+1,0,none⟩) spL:=by
   have h:=Rd.new ((wr.alloc (.cells #[.int .i64 2,.int .i64 0,.int .i64 0,.int .i64 0,.int .i64 (-1),.int .i64 1,.int .i64 0,.int .i64 20,.int .i64 0] iT)).alloc (.cells #[.int .i64 0,.int .i64 1,.int .i64 0,.int .i64 0,.int .i64 20] nK)) spL ig rfl;have e1:((wr.alloc (.cells #[.int .i64 2,.int .i64 0,.int .i64 0,.int .i64 0,.int .i64 (-1),.int .i64 1,.int .i64 0,.int .i64 20,.int .i64 0] iT)).alloc (.cells #[.int .i64 0,.int .i64 1,.int .i64 0,.int .i64 0,.int .i64 20] nK)).heap.size=wr.heap.size+1+1:=by simp
   rw [e1] at h;exact h
  have HRD:=O hrd;clear hrd
  go_wp2_with (at_builtin;refine aB _ rfl (.tmp 43) (.tmp 49) _ rfl 0 ig i1 z1 7 56 Tryz.underlying109 hi1 hz0 hz1 hz2 hz dcd (.slice none 0 0) 0 [] rfl (aA.nil _ (fun j=>w1.heap.size≤j) _ _).1 (wr.heap.size+1+1+1) (some ⟨wr.heap.size+1+1,0,none⟩) 1 1 spL rfl (fun h=>by cases h) HRD.out rfl (by simp [Value.oneCell']) dcd dcd (Nat.zero_le _) ?_)
  intro v1 w6 happ;have hwn:aA (((wr.alloc (.cells #[.int .i64 2,.int .i64 0,.int .i64 0,.int .i64 0,.int .i64 (-1),.int .i64 1,.int .i64 0,.int .i64 20,.int .i64 0] iT)).alloc (.cells #[.int .i64 0,.int .i64 1,.int .i64 0,.int .i64 0,.int .i64 20] nK)).alloc (.cells spL.toArray ig)) (fun j=>w1.heap.size≤j) ig 7 (.slice none 0 0) 0 []:=aA.nil _ _ _ _;obtain ⟨o1,f6⟩:=hwn.appended happ;obtain ⟨A6,c6,rfl,-⟩:=o1.form;have aq0:Fr No w1 (((wr.alloc (.cells #[.int .i64 2,.int .i64 0,.int .i64 0,.int .i64 0,.int .i64 (-1),.int .i64 1,.int .i64 0,.int .i64 20,.int .i64 0] iT)).alloc (.cells #[.int .i64 0,.int .i64 1,.int .i64 0,.int .i64 0,.int .i64 20] nK)).alloc (.cells spL.toArray ig)):=(((hf.alloc _).alloc _).alloc _);have aqf:=aq0.size;have f7:Fr No w1 w6:=aq0.aD f6 fun j hj=>hj;have o2:aA w6 (fun j=>w1.heap.size≤j) ig 7 (.slice A6 1 c6) 1 spL:=o1.mono fun j hj=>hj.elim id fun h=>by omega
  obtain ⟨b6,rfl,_⟩:=o2.head dcd;have O2:=O o2;clear happ hwn o1 f6 o2 aq0 aqf n9 n10 n11 n12 n13 n14 n15 n16 n17
  go_wp2_with fail
  go_roundw
  case rel=>exact ⟨.inr ⟨rfl,b6,c6,rfl,O2.out⟩,f7⟩
  case measure=>simp [intOf]
 ·have hdl:=af6 ho
  obtain ⟨HO,HDL⟩:=aN ho hdl;clear ho hdl
  go_wp2_with fail
  refine HDL.out.mono ?_;rintro e v2 ⟨rfl,f2⟩
  go_wp2_with fail
  refine (ald _ _ _ _).mono ?_;rintro e w5 ⟨rfl,rfl⟩
  go_wp2_with fail
  go_ret
  have ayd:=FB.out.size;exact ⟨b,c',rfl,(HO.out.au f2).mono fun j hj=>by omega,FB.out.ah (hf.ah f2)⟩
end
section
set_option linter.unusedSimpArgs false
variable {w w' :World}{F G:Nat→Prop}
theorem yh {f:Func}(k j:Nat){g:Nat}(ts:Array Value){a0 a1 a2 a3 a4 a5 a6 e:Value}{W:World}(hb:Blk W g ig #[a0,a1,a2,a3,a4,a5,a6])(h2:ts[k]?.getD undef= .pointer (some ⟨g,0,none⟩))(h3:ts[j]?.getD undef=e)(hr:f.results= #[.cell k ig,.tmp j]):(results f ts).run Tryz.prog W= .ok (.tuple #[.agg #[a0,a1,a2,a3,a4,a5,a6],e]) W:=by
 obtain ⟨c0,c1,c2,c3,c4,c5,c6⟩:=zq hb
 simp [results,hr,go_sem,h2,h3,c0,c1,c2,c3,c4,c5,c6]
set_option maxHeartbeats 8000000 in
theorem yT {bz cz bc cc bt ct bv cv br cr bo co:Nat}(hc:eB w F ⟨bz,cz,bc,cc,bt,ct,bv,cv,br,cr,bo,co⟩){be ec:Nat}{H:Nat→Prop}(hen:aA w H TEq 9 (.slice (some ⟨be,0,none⟩) 2 ec) 2 [.int .i64 1,.int .i64 0,.int .i64 0,.int .i64 0,.int .i64 1,.int .i64 0,.int .i64 0,.int .i64 0,.int .i64 0,.int .i64 2,.int .i64 0,.int .i64 0,.int .i64 0,.int .i64 (-1),.int .i64 1,.int .i64 0,.int .i64 20,.int .i64 0]):Calls Tryz.prog 34 #[.agg #[.int .i64 2,.slice (some ⟨bz,0,none⟩) 2 cz,.slice (some ⟨bc,0,none⟩) 2 cc,.slice (some ⟨bt,0,none⟩) 1 ct,.slice (some ⟨bv,0,none⟩) 1 cv,.slice (some ⟨br,0,none⟩) 1 cr,.slice (some ⟨bo,0,none⟩) 1 co,.int .i64 1,.int .i64 20,.int .i64 0],.slice (some ⟨be,0,none⟩) 2 ec,.int .i64 0,.int .i64 3] w fun e w' =>e= .returned (.tuple #[.agg #[.int .i64 0,.int .i64 1,.int .i64 0,.int .i64 1,.int .i64 0,.int .i64 0,.int .i64 20],.bool true])∧Fr No w w' :=by
 have hlc:=hc.lts;have hcx:=fun V (hV:Fr No w V)=>hc.au hV;clear hc;simp only at hlc;obtain ⟨g1,w1,hg1,hw1,fa1,hz1,b1⟩:=mk1 w #[.int .i64 2,.slice (some ⟨bz,0,none⟩) 2 cz,.slice (some ⟨bc,0,none⟩) 2 cc,.slice (some ⟨bt,0,none⟩) 1 ct,.slice (some ⟨bv,0,none⟩) 1 cv,.slice (some ⟨br,0,none⟩) 1 cr,.slice (some ⟨bo,0,none⟩) 1 co,.int .i64 1,.int .i64 20,.int .i64 0] TCf;have FB1:Fr No w w1:=fa1;obtain ⟨g2,w2,hg2,hw2,fa2,hz2,b2⟩:=mk1 w1 #[.int .i64 0,.int .i64 0,.int .i64 0,.int .i64 0,.int .i64 0,.int .i64 0,.int .i64 0] ig;replace b1:=b1.fr fa2 id;have FB2:Fr No w w2:=FB1.ah fa2;have hal:∀V,Fr No w2 V→V.cell? ⟨g1,0,none⟩=some (.int .i64 2)∧V.cell? ⟨g1,1,none⟩=some (.slice (some ⟨bz,0,none⟩) 2 cz)∧V.cell? ⟨g1,2,none⟩=some (.slice (some ⟨bc,0,none⟩) 2 cc)∧V.cell? ⟨g1,3,none⟩=some (.slice (some ⟨bt,0,none⟩) 1 ct)∧V.cell? ⟨g1,4,none⟩=some (.slice (some ⟨bv,0,none⟩) 1 cv)∧V.cell? ⟨g1,5,none⟩=some (.slice (some ⟨br,0,none⟩) 1 cr)∧V.cell? ⟨g1,6,none⟩=some (.slice (some ⟨bo,0,none⟩) 1 co)∧V.cell? ⟨g1,7,none⟩=some (.int .i64 1)∧V.cell? ⟨g1,8,none⟩=some (.int .i64 20)∧V.cell? ⟨g1,9,none⟩=some (.int .i64 0)∧V.cell? ⟨g2,0,none⟩=some (.int .i64 0)∧V.cell? ⟨g2,1,none⟩=some (.int .i64 0)∧V.cell? ⟨g2,2,none⟩=some (.int .i64 0)∧V.cell? ⟨g2,3,none⟩=some (.int .i64 0)∧V.cell? ⟨g2,4,none⟩=some (.int .i64 0)∧V.cell? ⟨g2,5,none⟩=some (.int .i64 0)∧V.cell? ⟨g2,6,none⟩=some (.int .i64 0):=fun V hV=>⟨(b1.fr hV id).cell 0,(b1.fr hV id).cell 1,(b1.fr hV id).cell 2,(b1.fr hV id).cell 3,(b1.fr hV id).cell 4,(b1.fr hV id).cell 5,(b1.fr hV id).cell 6,(b1.fr hV id).cell 7,(b1.fr hV id).cell 8,(b1.fr hV id).cell 9,(b2.fr hV id).cell 0,(b2.fr hV id).cell 1,(b2.fr hV id).cell 2,(b2.fr hV id).cell 3,(b2.fr hV id).cell 4,(b2.fr hV id).cell 5,(b2.fr hV id).cell 6⟩
 have HAL:=O hal;have fP:g1<w2.heap.size:=b1.lt;have kg:g2<w2.heap.size:=b2.lt;have jQ:w.heap.size≤g1:=by omega
 have hlt1:g1<g2:=by omega
 have hsB:w.heap.size≤w2.heap.size:=FB2.size;obtain ⟨FB,HCX,B1_,B2_⟩:=fV FB2 hcx b1 b2;have uO:=fun V (hV:Fr No w V)=>hen.au hV;have HEN:=O uO;clear uO hen;have he2:w.heap.size+1=g2:=by omega
 clear hal fa1 fa2 b1 b2 FB1 FB2 hcx;obtain ⟨HW1,HG1,HZ1,HW2,HG2,HZ2,HE2⟩:=jo hw1 hg1 hz1 hw2 hg2 hz2 he2;clear he2 hz2 hg2 hw2 hz1 hg1 hw1
 go_in
 go_upto_region 1 with fail
 rw [←HW1.out];rw [←HW2.out]
 try rw [HE2.out]
 try rw [←HG1.out]
 clear HW1 HG1 HZ1 HW2 HG2 HZ2 HE2;obtain ⟨q0_,q1_,q2_,q3_,q4_,q5_,q6_,q7_,q8_,q9_,bJ,bI,bG,bH,bM,bL,bO⟩:=HAL.out _ (Fr.refl _ _)
 go_wp2_with fail
 refine (tN (HCX.out _ FB.out) (HEN.out _ FB.out)).mono ?_;rintro e v ⟨b,c',rfl,ho,f⟩;clear q0_ q1_ q2_ q3_ q4_ q5_ q6_ q7_ q8_ q9_ bJ bI bG bH bM bL bO;have hoc:=(ho.cells dcd);have hbl:=hoc.1;have k0:=hoc.2.2;have x0:=k0 0 dcd;have x1:=k0 1 dcd;have x2:=k0 2 dcd;have x3:=k0 3 dcd;have x4:=k0 4 dcd;have x5:=k0 5 dcd;have x6:=k0 6 dcd;simp only [spL,List.getElem?_cons_zero,List.getElem?_cons_succ] at x0 x1 x2 x3 x4 x5 x6;clear hoc k0 ho;have hbne:b≠v.heap.size:=by omega
 go_wp2_with fail
 go_loopw [16] (fun i wr=>i= .int .i64 0∧wr=v) (fun _ _=>0)
 case atStart=>exact ⟨rfl,rfl⟩
 obtain ⟨rfl,hw⟩:=hrel;subst hw;obtain ⟨g9,hg9⟩:∃g,g=wr.heap.size:=⟨_,rfl⟩;have b9:Blk (wr.alloc (.cells #[.int .i64 0,.int .i64 1,.int .i64 0,.int .i64 1,.int .i64 0,.int .i64 0,.int .i64 20] ig)) g9 ig #[.int .i64 0,.int .i64 1,.int .i64 0,.int .i64 1,.int .i64 0,.int .i64 0,.int .i64 20]:=by rw [hg9];exact Blk.new _ _ _
 obtain ⟨HG9,B9⟩:=aN hg9 b9;clear hg9 b9
 go_wp2_with fail
 refine (sU _).mono ?_;rintro e v2 ⟨rfl,f2⟩;rw [←HG9.out];clear x0 x1 x2 x3 x4 x5 x6;obtain ⟨x0,x1,x2,x3,x4,x5,x6⟩:=zq (B9.out.fr f2 id);have f3:Fr No w2 v2:=(f.alloc _).ah f2;have bz:=B2_.out.fr f3 id;obtain ⟨z0,z1,z2,z3,z4,z5,z6⟩:=zq bz;have hfz:=oW bz;have y0:=hfz 0;have y1:=hfz 1;have y2:=hfz 2;have y3:=hfz 3;have y4:=hfz 4;have y5:=hfz 5;have y6:=hfz 6;have hbz:Blk (World.setCell (World.setCell (World.setCell (World.setCell (World.setCell (World.setCell (World.setCell v2 ⟨g2,0,none⟩ (.int .i64 0)) ⟨g2,1,none⟩ (.int .i64 1)) ⟨g2,2,none⟩ (.int .i64 0)) ⟨g2,3,none⟩ (.int .i64 1)) ⟨g2,4,none⟩ (.int .i64 0)) ⟨g2,5,none⟩ (.int .i64 0)) ⟨g2,6,none⟩ (.int .i64 20)) g2 ig #[.int .i64 0,.int .i64 1,.int .i64 0,.int .i64 1,.int .i64 0,.int .i64 0,.int .i64 20]:=Blk.cv (((((((bz.aC 0 (.int .i64 0)).aC 1 (.int .i64 1)).aC 2 (.int .i64 0)).aC 3 (.int .i64 1)).aC 4 (.int .i64 0)).aC 5 (.int .i64 0)).aC 6 (.int .i64 20)) (by simp);have hfw:=((((((((Fr.refl (fun b=>b=g2) v2).setCell (p:=⟨g2,0,none⟩) (.inl rfl) (.int .i64 0)).setCell (p:=⟨g2,1,none⟩) (.inl rfl) (.int .i64 1)).setCell (p:=⟨g2,2,none⟩) (.inl rfl) (.int .i64 0)).setCell (p:=⟨g2,3,none⟩) (.inl rfl) (.int .i64 1)).setCell (p:=⟨g2,4,none⟩) (.inl rfl) (.int .i64 0)).setCell (p:=⟨g2,5,none⟩) (.inl rfl) (.int .i64 0)).setCell (p:=⟨g2,6,none⟩) (.inl rfl) (.int .i64 20));obtain ⟨HZ,HFW,HF3⟩:=bC hbz hfw f3;clear hbz hfw hfz bz f3 f2 f
 go_wp2_with fail
 exact bodyPost_ret (yh 8 9 _ HZ.out rfl rfl rfl) rfl ⟨rfl,(FB.out.ah HF3.out).aD HFW.out fun b hb=>by have hb:b=g2:=hb;omega⟩
end
end Go.Proofs.YtodkhcbjpodgeaaGreat
