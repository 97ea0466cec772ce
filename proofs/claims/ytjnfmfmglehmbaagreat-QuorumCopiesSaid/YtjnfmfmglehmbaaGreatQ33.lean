/-
  The quorum's laws: the act of a step.
-/
import Derived.Test.YtjnfmfmglehmbaaGreatQ32
namespace Go.Proofs.YtjnfmfmglehmbaaGreat
open Go.ChangeShapes Go.WideShapes Go.ChangeAt Go.RowKit
set_option linter.unusedVariables false
set_option maxRecDepth 100000
set_option maxHeartbeats 4000000
abbrev ajo:TypeId:=61
def afe (wh who num:Int):Value:= .agg #[.int .i64 wh,.int .i64 who,.int .i64 num]
def ae3 (W0:World)(who num:Int)(e:En)(x:Value)(wx:World):Prop:=∃g8,x= .pointer (some ⟨g8,0,none⟩)∧W0.heap.size≤g8∧Blk wx g8 fE (eU 0 who num e).toArray∧Fr No W0 wx
theorem ag0 (W0:World)(c:Obj)(who num:Int)(e:En):ae3 W0 who num e (.pointer (some ⟨W0.heap.size+1,0,none⟩)) ((W0.alloc c).alloc (.cells (eU 0 who num e).toArray fE)).drew:=by
 refine ⟨_,rfl,Nat.le_succ _,?_,((aj _ _).alloc _).drew⟩;have:=Blk.new (W0.alloc c) fE (eU 0 who num e).toArray;rw [show (W0.alloc c).heap.size=W0.heap.size+1 from by simp] at this;exact this
theorem agz (W0:World)(c:Obj)(who num:Int)(e:En):ae3 W0 who num e (.pointer (some ⟨W0.heap.size,0,none⟩)) ((W0.alloc (.cells (eU 0 who num e).toArray fE)).alloc c).drew:=
 ⟨_,rfl,Nat.le_refl _,(Blk.new W0 fE (eU 0 who num e).toArray).fr (F:=No) (aj _ _).drew fun h=>h,((aj _ _).alloc _).drew⟩
def rY (W0:World)(g8:Nat)(kind who num:Int)(e:En)(wx:World):Prop:=Blk wx g8 fE (eU kind who num e).toArray∧Fr No W0 wx
theorem rY.kind {W0 wx:World}{g8:Nat}{who num:Int}{e:En}(h8:W0.heap.size≤g8)(hb:Blk wx g8 fE (eU 0 who num e).toArray)(hf:Fr No W0 wx)(k:Int):rY W0 g8 k who num e (wx.setCell ⟨g8,0,none⟩ (.int .i64 k)):=
 ⟨(hb.aU 0 _).conv rfl,hf.setCell (p:=⟨g8,0,none⟩) (.inr h8) _⟩
theorem rY.num {W0 wx:World}{g8:Nat}{k who num:Int}{e:En}(h:rY W0 g8 k who num e wx)(h8:W0.heap.size≤g8)(m:Int):rY W0 g8 k who m e (wx.setCell ⟨g8,2,none⟩ (.int .i64 m)):=
 ⟨(h.1.aU 2 _).conv rfl,h.2.setCell (p:=⟨g8,2,none⟩) (.inr h8) _⟩
theorem rY.ak {W0 wx w' :World}{g8:Nat}{k who num:Int}{e:En}(h:rY W0 g8 k who num e wx)(hf:Fr No wx w'):rY W0 g8 k who num e w' :=⟨h.1.fr hf fun h=>h,h.2.ah hf⟩
theorem iC {Z:World}{q:Nat}{o0 o1 o2 o3 o4 o5 o6 o7 o8 o9 o10 o11:Value}(kind who num:Int)(e:En)(h:Blk Z q fE #[o0,o1,o2,o3,o4,o5,o6,o7,o8,o9,o10,o11]):Blk (World.setCell (World.setCell (World.setCell (World.setCell (World.setCell (World.setCell (World.setCell (World.setCell (World.setCell (World.setCell (World.setCell (World.setCell Z ⟨q,0,none⟩ (.int .i64 kind)) ⟨q,1,none⟩ (.int .i64 who)) ⟨q,2,none⟩ (.int .i64 num)) ⟨q,3,none⟩ (.int .i64 e.kind)) ⟨q,4,none⟩ (.int .i64 e.tick)) ⟨q,5,none⟩ (.int .i64 e.aS)) ⟨q,6,none⟩ (.int .i64 e.cell)) ⟨q,7,none⟩ (.int .i64 e.other)) ⟨q,8,none⟩ (.int .i64 e.epoch)) ⟨q,9,none⟩ (.int .i64 e.from_)) ⟨q,10,none⟩ (.int .i64 e.bA)) ⟨q,11,none⟩ (.int .i64 e.n)) q fE #[.int .i64 kind,.int .i64 who,.int .i64 num,.int .i64 e.kind,.int .i64 e.tick,.int .i64 e.aS,.int .i64 e.cell,.int .i64 e.other,.int .i64 e.epoch,.int .i64 e.from_,.int .i64 e.bA,.int .i64 e.n]:=by
 refine Blk.conv (Blk.aU (Blk.aU (Blk.aU (Blk.aU (Blk.aU (Blk.aU (Blk.aU (Blk.aU (Blk.aU (Blk.aU (Blk.aU (Blk.aU h 0 (.int .i64 kind)) 1 (.int .i64 who)) 2 (.int .i64 num)) 3 (.int .i64 e.kind)) 4 (.int .i64 e.tick)) 5 (.int .i64 e.aS)) 6 (.int .i64 e.cell)) 7 (.int .i64 e.other)) 8 (.int .i64 e.epoch)) 9 (.int .i64 e.from_)) 10 (.int .i64 e.bA)) 11 (.int .i64 e.n)) ?_;simp only [List.setIfInBounds_toArray,List.set_cons_zero,List.set_cons_succ]
theorem eO {w Z:World}{q:Nat}(kind who num:Int)(e:En)(h:Fr No w Z)(hq:w.heap.size≤q):Fr No w (World.setCell (World.setCell (World.setCell (World.setCell (World.setCell (World.setCell (World.setCell (World.setCell (World.setCell (World.setCell (World.setCell (World.setCell Z ⟨q,0,none⟩ (.int .i64 kind)) ⟨q,1,none⟩ (.int .i64 who)) ⟨q,2,none⟩ (.int .i64 num)) ⟨q,3,none⟩ (.int .i64 e.kind)) ⟨q,4,none⟩ (.int .i64 e.tick)) ⟨q,5,none⟩ (.int .i64 e.aS)) ⟨q,6,none⟩ (.int .i64 e.cell)) ⟨q,7,none⟩ (.int .i64 e.other)) ⟨q,8,none⟩ (.int .i64 e.epoch)) ⟨q,9,none⟩ (.int .i64 e.from_)) ⟨q,10,none⟩ (.int .i64 e.bA)) ⟨q,11,none⟩ (.int .i64 e.n)):=Fr.setCell (Fr.setCell (Fr.setCell (Fr.setCell (Fr.setCell (Fr.setCell (Fr.setCell (Fr.setCell (Fr.setCell (Fr.setCell (Fr.setCell (Fr.setCell h (p:=⟨q,0,none⟩) (.inr hq) (.int .i64 kind)) (p:=⟨q,1,none⟩) (.inr hq) (.int .i64 who)) (p:=⟨q,2,none⟩) (.inr hq) (.int .i64 num)) (p:=⟨q,3,none⟩) (.inr hq) (.int .i64 e.kind)) (p:=⟨q,4,none⟩) (.inr hq) (.int .i64 e.tick)) (p:=⟨q,5,none⟩) (.inr hq) (.int .i64 e.aS)) (p:=⟨q,6,none⟩) (.inr hq) (.int .i64 e.cell)) (p:=⟨q,7,none⟩) (.inr hq) (.int .i64 e.other)) (p:=⟨q,8,none⟩) (.inr hq) (.int .i64 e.epoch)) (p:=⟨q,9,none⟩) (.inr hq) (.int .i64 e.from_)) (p:=⟨q,10,none⟩) (.inr hq) (.int .i64 e.bA)) (p:=⟨q,11,none⟩) (.inr hq) (.int .i64 e.n)
theorem wI {w Z:World}{F:Nat→Prop}{q:Nat}(kind who num:Int)(e:En)(h:Fr F w Z)(hq:F q):Fr F w (World.setCell (World.setCell (World.setCell (World.setCell (World.setCell (World.setCell (World.setCell (World.setCell (World.setCell (World.setCell (World.setCell (World.setCell Z ⟨q,0,none⟩ (.int .i64 kind)) ⟨q,1,none⟩ (.int .i64 who)) ⟨q,2,none⟩ (.int .i64 num)) ⟨q,3,none⟩ (.int .i64 e.kind)) ⟨q,4,none⟩ (.int .i64 e.tick)) ⟨q,5,none⟩ (.int .i64 e.aS)) ⟨q,6,none⟩ (.int .i64 e.cell)) ⟨q,7,none⟩ (.int .i64 e.other)) ⟨q,8,none⟩ (.int .i64 e.epoch)) ⟨q,9,none⟩ (.int .i64 e.from_)) ⟨q,10,none⟩ (.int .i64 e.bA)) ⟨q,11,none⟩ (.int .i64 e.n)):=Fr.setCell (Fr.setCell (Fr.setCell (Fr.setCell (Fr.setCell (Fr.setCell (Fr.setCell (Fr.setCell (Fr.setCell (Fr.setCell (Fr.setCell (Fr.setCell h (p:=⟨q,0,none⟩) (.inl hq) (.int .i64 kind)) (p:=⟨q,1,none⟩) (.inl hq) (.int .i64 who)) (p:=⟨q,2,none⟩) (.inl hq) (.int .i64 num)) (p:=⟨q,3,none⟩) (.inl hq) (.int .i64 e.kind)) (p:=⟨q,4,none⟩) (.inl hq) (.int .i64 e.tick)) (p:=⟨q,5,none⟩) (.inl hq) (.int .i64 e.aS)) (p:=⟨q,6,none⟩) (.inl hq) (.int .i64 e.cell)) (p:=⟨q,7,none⟩) (.inl hq) (.int .i64 e.other)) (p:=⟨q,8,none⟩) (.inl hq) (.int .i64 e.epoch)) (p:=⟨q,9,none⟩) (.inl hq) (.int .i64 e.from_)) (p:=⟨q,10,none⟩) (.inl hq) (.int .i64 e.bA)) (p:=⟨q,11,none⟩) (.inl hq) (.int .i64 e.n)
theorem fD (kind who num:Int)(e:En)(g:Nat)(ts:Array Value)(W:World)(hb:Blk W g fE #[.int .i64 kind,.int .i64 who,.int .i64 num,.int .i64 e.kind,.int .i64 e.tick,.int .i64 e.aS,.int .i64 e.cell,.int .i64 e.other,.int .i64 e.epoch,.int .i64 e.from_,.int .i64 e.bA,.int .i64 e.n])(h2:ts[6]?.getD undef= .pointer (some ⟨g,0,none⟩)):
  (results Tryz.f25 ts).run Tryz.prog W= .ok (gZ kind who num e) W:=by
 obtain ⟨c0,c1,c2,c3,c4,c5,c6,c7,c8,c9,c10,c11⟩:=aM (kind:=kind) (who:=who) (num:=num) (e:=e) hb;clear hb
 simp [results,gZ,Tryz.results25,go_sem,h2,c0,c1,c2,c3,c4,c5,c6,c7,c8,c9,c10,c11]
set_option maxHeartbeats 8000000 in
theorem yA (wh who num:Int)(n net:Nat)(h0:0<n)(h5:n≤5)(agb:net≤256)(w:World):Calls Tryz.prog 25 #[afe wh who num,.int .i64 (n:Int),.int .i64 (net:Int)] w fun e w' =>e= .returned (gZ (dB wh) (who % n) (iI wh num net) (bE (num % 1000)))∧Fr No w w' :=by
 have hm1:=fun W=>dO who n W oy oy;have hm2:=fun W=>dO wh 16 W oy oy;have hm3:=fun W=>dO num (max net 1:Nat) W oy oy;have hnt:=fun W=>oH num W;unfold bE En.v at hnt;unfold afe;obtain ⟨W0,hW0⟩:∃W0,W0=(w.alloc (.cells #[.int .i64 wh,.int .i64 who,.int .i64 num] ajo)).alloc (.cells (eU 0 0 0 ⟨0,0,0,0,0,0,0,0,0⟩).toArray fE):=⟨_,rfl⟩;obtain ⟨g,hg⟩:∃g,g=w.heap.size:=⟨_,rfl⟩;have hf0:Fr No w W0:=by rw [hW0];exact (aj _ _).alloc _
 have hb0:Blk W0 g ajo #[.int .i64 wh,.int .i64 who,.int .i64 num]:=by rw [hW0,hg];exact (Blk.new _ _ _).fr (aj _ _) fun h=>h
 have hb1:Blk W0 (g+1) fE (eU 0 0 0 ⟨0,0,0,0,0,0,0,0,0⟩).toArray:=by
  have:=Blk.new (w.alloc (.cells #[.int .i64 wh,.int .i64 who,.int .i64 num] ajo)) fE (eU 0 0 0 ⟨0,0,0,0,0,0,0,0,0⟩).toArray;rw [hW0,hg]
  simpa using this
 simp only [eU] at hW0;have hcs:=fun W (hf:Fr No W0 W)=>(⟨(hb0.fr hf fun h=>h).cell 0,(hb0.fr hf fun h=>h).cell 1,(hb0.fr hf fun h=>h).cell 2⟩:W.cell? ⟨g,0,none⟩=some (.int .i64 wh)∧W.cell? ⟨g,1,none⟩=some (.int .i64 who)∧W.cell? ⟨g,2,none⟩=some (.int .i64 num));obtain ⟨c0,c1,c2⟩:=hcs W0 (Fr.refl _ _);have hgl:=hb0.lt;have aa9:=hb1.lt;obtain ⟨FF,B1⟩:=aO hf0 hb1;clear hb0 hb1 hf0;obtain ⟨HM1,HM2,HM3,HNT,HW0,HG,HCS⟩:=nC hm1 hm2 hm3 hnt hW0 hg hcs;clear hm1 hm2 hm3 hnt hW0 hg hcs
 go_in
 go_upto_region 1 with fail
 rw [←HW0.out,←HG.out];clear HW0
 go_wp2_with fail
 refine (HM1.out _).mono ?_;rintro e w1 ⟨rfl,rfl⟩
 go_upto_region 2 with fail
 go_cut [8] (fun x wx=>ae3 W0 (who % n) num (bE (num % 1000)) x wx)
 case first=>
  have hd:=HCS.out W0.drew (Fr.refl _ _).drew
  go_region_held3 (fun V=>V.cell? ⟨g,0,none⟩=some (.int .i64 wh)∧V.cell? ⟨g,1,none⟩=some (.int .i64 who)∧V.cell? ⟨g,2,none⟩=some (.int .i64 num)) (first|exact hd|exact HCS.out _ frz) (first
   |(go_at_call 58;refine (HNT.out _).mono ?_;rintro e v1 ⟨rfl,c9,rfl⟩))
  all_goals go_wp2_with fail
  all_goals go_meet
  all_goals (first|exact ag0 _ _ _ _ _|exact agz _ _ _ _ _)
 case rest=>
  obtain ⟨g8,rfl,h8,hb8,hf8⟩:=hcut;have hset:=O (rY.kind h8 hb8 hf8);clear c0 c1 c2;obtain ⟨c0,c1,c2⟩:=HCS.out wc hf8;have y0:wc.cell? ⟨g8,0,none⟩=some (.int .i64 0):=hb8.cell 0;have z0:=hb8.frozen 0;have hl8:=hb8.lt;have hs8:=hf8.size;clear hb8 hf8
  go_upto_block 0 with (go_at_call 7;refine (HM2.out _).mono ?_;rintro e w' ⟨rfl,rfl⟩)
  go_cut [] (fun wx=>rY W0 g8 (dB wh) (who % n) num (bE (num % 1000)) wx)
  case first=>
   have hcase:wh % 16=0∨wh % 16=1∨wh % 16=2∨wh % 16=3∨wh % 16=4∨wh % 16=5∨wh % 16=6∨wh % 16=7∨wh % 16=8∨9≤wh % 16:=by omega
   have hK:=O (show dB wh=if wh % 16≤1 then 1 else if wh % 16≤4 then 2 else if wh % 16=5 then 3 else if wh % 16=6 then 5 else if wh % 16=7 then 6 else if wh % 16=8 then 7 else 4 from rfl);generalize dB wh=K at*;generalize wh % 16=M at*
   rcases hcase with rfl|rfl|rfl|rfl|rfl|rfl|rfl|rfl|rfl|hM
   case inr.inr.inr.inr.inr.inr.inr.inr.inr=>
    have k0:(M == 0)=false:=by simp;omega
    have k1:(M == 1)=false:=by simp;omega
    have k2:(M == 2)=false:=by simp;omega
    have k3:(M == 3)=false:=by simp;omega
    have k4:(M == 4)=false:=by simp;omega
    have k5:(M == 5)=false:=by simp;omega
    have k6:(M == 6)=false:=by simp;omega
    have k7:(M == 7)=false:=by simp;omega
    have k8:(M == 8)=false:=by simp;omega
    have hk:K=4:=by
     have h:=hK.out;rw [if_neg oy,if_neg oy,if_neg oy,if_neg oy,if_neg oy,if_neg oy] at h;exact h
    have T9:=O (hset.out 4);subst hk;clear hM hK hset
    go_wp2_with fail
    go_meet
    exact T9.out
   all_goals
    have hk:=hK.out
    simp at hk
    subst hk;have T9:=O hset.out;clear hK hset
    go_wp2_with fail
    go_meet
    exact T9.out _
  case rest=>
   obtain ⟨K,hKe⟩:∃K,K=dB wh:=⟨_,rfl⟩;obtain ⟨NN,hNe⟩:∃NN,NN=iI wh num net:=⟨_,rfl⟩;have hN:=(show iI wh num net=if dB wh=4∨dB wh=5∨dB wh=6 then num % (max net 1:Nat) else num from rfl);rw [←hKe,←hNe] at hN;rw [←hKe] at hcut;have hA:=O hcut;have hB:=hcut.1;have hf8:=hcut.2;clear c0 c1 c2 y0 z0 hcut hset;obtain ⟨c0,c1,c2⟩:=HCS.out wc hf8;obtain ⟨y0,y1,y2,-⟩:=aM hB;have z2:=hB.frozen 2;have atn :=nll hgl hf8.size;have ath :=hB.lt;clear hf8 hB;replace hKe:=O hKe;replace hNe:=O hNe;replace hN:=O hN;have hR:=O (B1.out)
   by_cases hK:K=4∨K=5∨K=6
   ·have hn:=hN.out
    rw [if_pos hK] at hn;have T9:=O (hA.out.num h8 NN);rw [←hn] at HM3;clear hn hN hA;have an5:net=0∨net=1∨(2≤net∧max net 1=net):=by omega
    rcases an5 with rfl|rfl|⟨hn2,hmx⟩
    case inr.inr=>
     rw [hmx] at HM3;have m1:(1:Int)<(net:Int):=by omega
     have m2:¬(net:Int)<1:=by omega
     have m3:(1:Int)≤(net:Int):=by omega
     have m4:¬(net:Int)≤1:=by omega
     have m5:max (net:Int) 1=net:=by omega
     clear hmx hn2
     rcases hK with rfl|rfl|rfl
     ·go_upto_region 22 with (first|(go_at_call 7;refine (HM3.out _).mono ?_;rintro e w' ⟨rfl,rfl⟩))
      have hA2:=T9.out;clear T9;generalize wc.setCell ⟨g8,2,none⟩ (.int .i64 NN)=wx at*;obtain ⟨hb9,hf9⟩:=hA2;obtain ⟨q0,q1,q2,q3,q4,q5,q6,q7,q8,q9,q10,q11⟩:=aM hb9;simp only [bE] at q3 q4 q5 q6 q7 q8 q9 q10 q11;have hr9:=hR.out.fr hf9 fun h=>h;obtain ⟨r0,r1,r2,r3,r4,r5,r6,r7,r8,r9,r10,r11⟩:=aM hr9;have s0:=hr9.frozen 0;have s1:=hr9.frozen 1;have s2:=hr9.frozen 2;have s3:=hr9.frozen 3;have s4:=hr9.frozen 4;have s5:=hr9.frozen 5;have s6:=hr9.frozen 6;have s7:=hr9.frozen 7;have s8:=hr9.frozen 8;have s9:=hr9.frozen 9;have s10:=hr9.frozen 10;have s11:=hr9.frozen 11;obtain ⟨HR9,HF9⟩:=aO hr9 (FF.out.ah hf9);have akc:=nll aa9 hf9.size;have hl9:=hb9.lt;clear hb9 hr9 hf9
      go_wp2_with fail
      refine bodyPost_ret (v:=gZ 4 (who % n) NN (bE (num % 1000))) (fD 4 (who % n) NN (bE (num % 1000)) (g+1) _ _ (iC 4 (who % n) NN (bE (num % 1000)) HR9.out) rfl) rfl ?_;exact ⟨(by rw [←hKe.out,←hNe.out]),eO 4 (who % n) NN (bE (num % 1000)) HF9.out (by rw [HG.out];exact Nat.le_succ _)⟩
     ·go_upto_region 22 with (first|(go_at_call 7;refine (HM3.out _).mono ?_;rintro e w' ⟨rfl,rfl⟩))
      have hA2:=T9.out;clear T9;generalize wc.setCell ⟨g8,2,none⟩ (.int .i64 NN)=wx at*;obtain ⟨hb9,hf9⟩:=hA2;obtain ⟨q0,q1,q2,q3,q4,q5,q6,q7,q8,q9,q10,q11⟩:=aM hb9;simp only [bE] at q3 q4 q5 q6 q7 q8 q9 q10 q11;have hr9:=hR.out.fr hf9 fun h=>h;obtain ⟨r0,r1,r2,r3,r4,r5,r6,r7,r8,r9,r10,r11⟩:=aM hr9;have s0:=hr9.frozen 0;have s1:=hr9.frozen 1;have s2:=hr9.frozen 2;have s3:=hr9.frozen 3;have s4:=hr9.frozen 4;have s5:=hr9.frozen 5;have s6:=hr9.frozen 6;have s7:=hr9.frozen 7;have s8:=hr9.frozen 8;have s9:=hr9.frozen 9;have s10:=hr9.frozen 10;have s11:=hr9.frozen 11;obtain ⟨HR9,HF9⟩:=aO hr9 (FF.out.ah hf9);have akc:=nll aa9 hf9.size;have hl9:=hb9.lt;clear hb9 hr9 hf9
      go_wp2_with fail
      refine bodyPost_ret (v:=gZ 5 (who % n) NN (bE (num % 1000))) (fD 5 (who % n) NN (bE (num % 1000)) (g+1) _ _ (iC 5 (who % n) NN (bE (num % 1000)) HR9.out) rfl) rfl ?_;exact ⟨(by rw [←hKe.out,←hNe.out]),eO 5 (who % n) NN (bE (num % 1000)) HF9.out (by rw [HG.out];exact Nat.le_succ _)⟩
     ·go_upto_region 22 with (first|(go_at_call 7;refine (HM3.out _).mono ?_;rintro e w' ⟨rfl,rfl⟩))
      have hA2:=T9.out;clear T9;generalize wc.setCell ⟨g8,2,none⟩ (.int .i64 NN)=wx at*;obtain ⟨hb9,hf9⟩:=hA2;obtain ⟨q0,q1,q2,q3,q4,q5,q6,q7,q8,q9,q10,q11⟩:=aM hb9;simp only [bE] at q3 q4 q5 q6 q7 q8 q9 q10 q11;have hr9:=hR.out.fr hf9 fun h=>h;obtain ⟨r0,r1,r2,r3,r4,r5,r6,r7,r8,r9,r10,r11⟩:=aM hr9;have s0:=hr9.frozen 0;have s1:=hr9.frozen 1;have s2:=hr9.frozen 2;have s3:=hr9.frozen 3;have s4:=hr9.frozen 4;have s5:=hr9.frozen 5;have s6:=hr9.frozen 6;have s7:=hr9.frozen 7;have s8:=hr9.frozen 8;have s9:=hr9.frozen 9;have s10:=hr9.frozen 10;have s11:=hr9.frozen 11;obtain ⟨HR9,HF9⟩:=aO hr9 (FF.out.ah hf9);have akc:=nll aa9 hf9.size;have hl9:=hb9.lt;clear hb9 hr9 hf9
      go_wp2_with fail
      refine bodyPost_ret (v:=gZ 6 (who % n) NN (bE (num % 1000))) (fD 6 (who % n) NN (bE (num % 1000)) (g+1) _ _ (iC 6 (who % n) NN (bE (num % 1000)) HR9.out) rfl) rfl ?_;exact ⟨(by rw [←hKe.out,←hNe.out]),eO 6 (who % n) NN (bE (num % 1000)) HF9.out (by rw [HG.out];exact Nat.le_succ _)⟩
    all_goals
     rcases hK with rfl|rfl|rfl
     ·go_upto_region 22 with (first|(go_at_call 7;refine (HM3.out _).mono ?_;rintro e w' ⟨rfl,rfl⟩))
      have hA2:=T9.out;clear T9;generalize wc.setCell ⟨g8,2,none⟩ (.int .i64 NN)=wx at*;obtain ⟨hb9,hf9⟩:=hA2;obtain ⟨q0,q1,q2,q3,q4,q5,q6,q7,q8,q9,q10,q11⟩:=aM hb9;simp only [bE] at q3 q4 q5 q6 q7 q8 q9 q10 q11;have hr9:=hR.out.fr hf9 fun h=>h;obtain ⟨r0,r1,r2,r3,r4,r5,r6,r7,r8,r9,r10,r11⟩:=aM hr9;have s0:=hr9.frozen 0;have s1:=hr9.frozen 1;have s2:=hr9.frozen 2;have s3:=hr9.frozen 3;have s4:=hr9.frozen 4;have s5:=hr9.frozen 5;have s6:=hr9.frozen 6;have s7:=hr9.frozen 7;have s8:=hr9.frozen 8;have s9:=hr9.frozen 9;have s10:=hr9.frozen 10;have s11:=hr9.frozen 11;obtain ⟨HR9,HF9⟩:=aO hr9 (FF.out.ah hf9);have akc:=nll aa9 hf9.size;have hl9:=hb9.lt;clear hb9 hr9 hf9
      go_wp2_with fail
      refine bodyPost_ret (v:=gZ 4 (who % n) NN (bE (num % 1000))) (fD 4 (who % n) NN (bE (num % 1000)) (g+1) _ _ (iC 4 (who % n) NN (bE (num % 1000)) HR9.out) rfl) rfl ?_;exact ⟨(by rw [←hKe.out,←hNe.out]),eO 4 (who % n) NN (bE (num % 1000)) HF9.out (by rw [HG.out];exact Nat.le_succ _)⟩
     ·go_upto_region 22 with (first|(go_at_call 7;refine (HM3.out _).mono ?_;rintro e w' ⟨rfl,rfl⟩))
      have hA2:=T9.out;clear T9;generalize wc.setCell ⟨g8,2,none⟩ (.int .i64 NN)=wx at*;obtain ⟨hb9,hf9⟩:=hA2;obtain ⟨q0,q1,q2,q3,q4,q5,q6,q7,q8,q9,q10,q11⟩:=aM hb9;simp only [bE] at q3 q4 q5 q6 q7 q8 q9 q10 q11;have hr9:=hR.out.fr hf9 fun h=>h;obtain ⟨r0,r1,r2,r3,r4,r5,r6,r7,r8,r9,r10,r11⟩:=aM hr9;have s0:=hr9.frozen 0;have s1:=hr9.frozen 1;have s2:=hr9.frozen 2;have s3:=hr9.frozen 3;have s4:=hr9.frozen 4;have s5:=hr9.frozen 5;have s6:=hr9.frozen 6;have s7:=hr9.frozen 7;have s8:=hr9.frozen 8;have s9:=hr9.frozen 9;have s10:=hr9.frozen 10;have s11:=hr9.frozen 11;obtain ⟨HR9,HF9⟩:=aO hr9 (FF.out.ah hf9);have akc:=nll aa9 hf9.size;have hl9:=hb9.lt;clear hb9 hr9 hf9
      go_wp2_with fail
      refine bodyPost_ret (v:=gZ 5 (who % n) NN (bE (num % 1000))) (fD 5 (who % n) NN (bE (num % 1000)) (g+1) _ _ (iC 5 (who % n) NN (bE (num % 1000)) HR9.out) rfl) rfl ?_;exact ⟨(by rw [←hKe.out,←hNe.out]),eO 5 (who % n) NN (bE (num % 1000)) HF9.out (by rw [HG.out];exact Nat.le_succ _)⟩
     ·go_upto_region 22 with (first|(go_at_call 7;refine (HM3.out _).mono ?_;rintro e w' ⟨rfl,rfl⟩))
      have hA2:=T9.out;clear T9;generalize wc.setCell ⟨g8,2,none⟩ (.int .i64 NN)=wx at*;obtain ⟨hb9,hf9⟩:=hA2;obtain ⟨q0,q1,q2,q3,q4,q5,q6,q7,q8,q9,q10,q11⟩:=aM hb9;simp only [bE] at q3 q4 q5 q6 q7 q8 q9 q10 q11;have hr9:=hR.out.fr hf9 fun h=>h;obtain ⟨r0,r1,r2,r3,r4,r5,r6,r7,r8,r9,r10,r11⟩:=aM hr9;have s0:=hr9.frozen 0;have s1:=hr9.frozen 1;have s2:=hr9.frozen 2;have s3:=hr9.frozen 3;have s4:=hr9.frozen 4;have s5:=hr9.frozen 5;have s6:=hr9.frozen 6;have s7:=hr9.frozen 7;have s8:=hr9.frozen 8;have s9:=hr9.frozen 9;have s10:=hr9.frozen 10;have s11:=hr9.frozen 11;obtain ⟨HR9,HF9⟩:=aO hr9 (FF.out.ah hf9);have akc:=nll aa9 hf9.size;have hl9:=hb9.lt;clear hb9 hr9 hf9
      go_wp2_with fail
      refine bodyPost_ret (v:=gZ 6 (who % n) NN (bE (num % 1000))) (fD 6 (who % n) NN (bE (num % 1000)) (g+1) _ _ (iC 6 (who % n) NN (bE (num % 1000)) HR9.out) rfl) rfl ?_;exact ⟨(by rw [←hKe.out,←hNe.out]),eO 6 (who % n) NN (bE (num % 1000)) HF9.out (by rw [HG.out];exact Nat.le_succ _)⟩
   ·have hn:=hN.out
    rw [if_neg hK] at hn;replace hn:=O hn;have k4:(K == 4)=false:=by simp;omega
    have k5:(K == 5)=false:=by simp;omega
    have k6:(K == 6)=false:=by simp;omega
    have T9:=hA;clear hK hN hA
    go_upto_region 22 with fail
    have hA2:=T9.out;clear T9;generalize wc=wx at*;obtain ⟨hb9,hf9⟩:=hA2;obtain ⟨q0,q1,q2,q3,q4,q5,q6,q7,q8,q9,q10,q11⟩:=aM hb9;simp only [bE] at q3 q4 q5 q6 q7 q8 q9 q10 q11;have hr9:=hR.out.fr hf9 fun h=>h;obtain ⟨r0,r1,r2,r3,r4,r5,r6,r7,r8,r9,r10,r11⟩:=aM hr9;have s0:=hr9.frozen 0;have s1:=hr9.frozen 1;have s2:=hr9.frozen 2;have s3:=hr9.frozen 3;have s4:=hr9.frozen 4;have s5:=hr9.frozen 5;have s6:=hr9.frozen 6;have s7:=hr9.frozen 7;have s8:=hr9.frozen 8;have s9:=hr9.frozen 9;have s10:=hr9.frozen 10;have s11:=hr9.frozen 11;obtain ⟨HR9,HF9⟩:=aO hr9 (FF.out.ah hf9);have akc:=nll aa9 hf9.size;have hl9:=hb9.lt;clear hb9 hr9 hf9
    go_wp2_with fail
    refine bodyPost_ret (v:=gZ K (who % n) num (bE (num % 1000))) (fD K (who % n) num (bE (num % 1000)) (g+1) _ _ (iC K (who % n) num (bE (num % 1000)) HR9.out) rfl) rfl ?_;exact ⟨(by rw [←hKe.out,←hNe.out,hn.out]),eO K (who % n) num (bE (num % 1000)) HF9.out (by rw [HG.out];exact Nat.le_succ _)⟩
end Go.Proofs.YtjnfmfmglehmbaaGreat
