/-
  The walk of the law's 'both' of the replica: Propose, again.
-/
import Derived.Test.YtjnfmfmglehmbaaGreatQ57
namespace Go.Proofs.YtjnfmfmglehmbaaGreat
open Go.ChangeShapes Go.WideShapes Go.ChangeAt Go.RowKit
set_option linter.unusedVariables false
set_option maxRecDepth 100000
set_option maxHeartbeats 4000000
set_option maxHeartbeats 8000000 in
theorem aji {w:World}{H E:Nat→Prop}{p q n:Nat}{r:Rs}(h:PA w H p q r n)(s:St9)(A:Option Addr)(c:Nat)(hs:SAt w H E s A c)(hsz:n+700000≤1000000000000)(hm:s.wh % 10=2):
  Calls Tryz.prog 16 #[.pointer (some ⟨p,0,none⟩),.pointer (some ⟨q,0,none⟩),s.v (.slice A s.m.es.length c)] w fun e w' =>e= .returned (.bool true)∧BTo w H p q r n (s.wh % 10=4) w' :=by
 have hM:=fun W=>dO s.wh 10 W dcd dcd;simp only [hm] at hM;have hok:=h.ok;have hl:=h.lt;obtain ⟨hE,hEH,hes,hlen,ha,hb⟩:=hs;have hM2:=hE.rd.2.2.1;have hM1:=hE.rd.2.2.2.1;unfold maxLen at hM1;obtain ⟨wh,a,b,kd,mf,mto,mt,ix,pv,cm,ok,es⟩:=s;simp only [St9.v] at*;obtain ⟨len,hle⟩:∃len,len=es.length:=⟨_,rfl⟩;simp only [←hle] at hlen hM2 hE ⊢;obtain ⟨W0,hW0⟩:∃W0,W0=w.alloc (.cells #[.int .i64 wh,.int .i64 a,.int .i64 b,.int .i64 kd,.int .i64 mf,.int .i64 mto,.int .i64 mt,.int .i64 ix,.int .i64 pv,.int .i64 cm,.bool ok,.slice A len c] wK):=⟨_,rfl⟩;obtain ⟨g,hg⟩:∃g,g=w.heap.size:=⟨_,rfl⟩;have hbk:Blk W0 g wK #[.int .i64 wh,.int .i64 a,.int .i64 b,.int .i64 kd,.int .i64 mf,.int .i64 mto,.int .i64 mt,.int .i64 ix,.int .i64 pv,.int .i64 cm,.bool ok,.slice A len c]:=by rw [hW0,hg];exact Blk.new _ _ _
 have hf0:Fr No w W0:=by rw [hW0];exact aj _ _
 have h0:=h.ak hf0;have hE0:=hE.ak hf0;rw [←hg] at hl;have hgl:=hbk.lt;have hbx:∀V,Fr H W0 V→(V.cell? ⟨g,0,none⟩=some (.int .i64 wh)∧V.cell? ⟨g,1,none⟩=some (.int .i64 a)∧V.cell? ⟨g,2,none⟩=some (.int .i64 b))∧V.cell? ⟨g,3,none⟩=some (.int .i64 kd)∧V.cell? ⟨g,4,none⟩=some (.int .i64 mf)∧V.cell? ⟨g,5,none⟩=some (.int .i64 mto)∧V.cell? ⟨g,6,none⟩=some (.int .i64 mt)∧V.cell? ⟨g,7,none⟩=some (.int .i64 ix)∧V.cell? ⟨g,8,none⟩=some (.int .i64 pv)∧V.cell? ⟨g,9,none⟩=some (.int .i64 cm)∧V.cell? ⟨g,10,none⟩=some (.bool ok)∧V.cell? ⟨g,11,none⟩=some (.slice A len c):=fun V hV=>let k:=hbk.fr hV (fun hh=>by have:=hl g hh;omega);⟨⟨k.cell 0,k.cell 1,k.cell 2⟩,k.cell 3,k.cell 4,k.cell 5,k.cell 6,k.cell 7,k.cell 8,k.cell 9,k.cell 10,k.cell 11⟩;obtain ⟨⟨c0,c1,c2⟩,c3,c4,c5,c6,c7,c8,c9,c10,c11⟩:=hbx W0 (Fr.refl _ _);clear hbk;have hN:=fun W=>mR a W;have hna:=kR (a % 1000) (Int.emod_nonneg _ dcd) (Int.emod_lt_of_pos _ dcd);obtain ⟨ne,hne⟩:∃ne,ne=bE (a % 1000):=⟨_,rfl⟩;rw [←hne] at hN hna;have hSp:=fun W=>su ne a b W;have hns:=vk ne (a % 9) b hna hb;generalize sw ne (a % 9) b=se at*;have hP:=fun W9 (hf9:Fr No W0 W9) (y:En) (hy:y.ok) W (hf:Fr No W9 W)=>(h0.ak hf9).propose y hy oy hf;have hR:=fun W9 (hf9:Fr No W0 W9) (y:En) (hy:y.ok) A c w1 W (h1:Hf1 W9 H p q r n (r.propose y) (n+128) A c w1) (hf:Fr No w1 W)=>h1.propose hy oy hf;have hTu:∀y:En,Turns (wh % 10=4) r (r.propose y).1:=fun y=> .inr ⟨by omega,Kept.propose hok y⟩;obtain ⟨k0,k1,k2,k3,k4,k5,k6,k7,k8⟩:=ne
 obtain ⟨s0,s1,s2,s3,s4,s5,s6,s7,s8⟩:=se;unfold En.v at hN hSp hP hR;simp only at hN hSp;clear h h0 hE hE0 hm hne;obtain ⟨HM,HBX,HW0,HG,HF0,HLE,HP,HR,HTU,HN,HSP,HNA⟩:=gY hM hbx hW0 hg hf0 hle hP hR hTu hN hSp hna;have HNS:=O hns;clear hM hbx hW0 hg hf0 hle hP hR hTu hN hSp hna hns
 go_in
 go_upto_region 1 with fail
 rw [←HG.out,←HW0.out]
 go_wp2_with fail
 refine (HM.out _).mono ?_;rintro e w' ⟨rfl,rfl⟩
 go_wp2_with fail
 refine (HN.out _).mono ?_;rintro e w3 ⟨rfl,f3⟩;obtain ⟨W4,hW4⟩:∃W4,W4=w3.alloc (.cells #[.int .i64 k0,.int .i64 k1,.int .i64 k2,.int .i64 k3,.int .i64 k4,.int .i64 k5,.int .i64 k6,.int .i64 k7,.int .i64 k8] dR):=⟨_,rfl⟩;obtain ⟨g7,hg7⟩:∃g7,g7=w3.heap.size:=⟨_,rfl⟩;have hb4:Blk W4 g7 dR #[.int .i64 k0,.int .i64 k1,.int .i64 k2,.int .i64 k3,.int .i64 k4,.int .i64 k5,.int .i64 k6,.int .i64 k7,.int .i64 k8]:=by rw [hW4,hg7];exact Blk.new _ _ _
 have hf4:Fr No W0 W4:=by rw [hW4];exact f3.alloc _
 have hs4:W0.heap.size≤g7:=by rw [hg7];exact f3.size
 clear f3 c0 c1 c2 c3 c4 c5 c6 c7 c8 c9 c10 c11;obtain ⟨HW4,HG7,HF4,HB4⟩:=fK hW4 hg7 hf4 hb4;clear hW4 hg7 hf4 hb4
 go_upto_region 11 with fail
 rw [←HG7.out,←HW4.out];obtain ⟨⟨c0,c1,c2⟩,-⟩:=HBX.out W4 (HF4.out.mono fun _ h=>h.elim)
 by_cases h7:b.tmod 7=0
 ·have g7b:(b.tmod 7 == 0)=true:=by simpa using h7
  clear h7;obtain ⟨z0,z1,z2,z3,z4,z5,z6,z7,z8⟩:=aB HB4.out
  go_wp2_with fail
  refine (HSP.out _).mono ?_;rintro e w5 ⟨rfl,f5⟩;have hb5:Blk w5 g7 dR #[.int .i64 k0,.int .i64 k1,.int .i64 k2,.int .i64 k3,.int .i64 k4,.int .i64 k5,.int .i64 k6,.int .i64 k7,.int .i64 k8]:=HB4.out.fr f5 id;have hf5:Fr No W0 w5:=HF4.out.ah f5;clear f5 z0 z1 z2 z3 z4 z5 z6 z7 z8 c0 c1 c2;obtain ⟨z0,z1,z2,z3,z4,z5,z6,z7,z8⟩:=aB hb5;have y0:=hb5.frozen 0;have y1:=hb5.frozen 1;have y2:=hb5.frozen 2;have y3:=hb5.frozen 3;have y4:=hb5.frozen 4;have y5:=hb5.frozen 5;have y6:=hb5.frozen 6;have y7:=hb5.frozen 7;have y8:=hb5.frozen 8;obtain ⟨W9,hW9⟩:∃W9,W9=World.setCell (World.setCell (World.setCell (World.setCell (World.setCell (World.setCell (World.setCell (World.setCell (World.setCell (w5) ⟨g7,0,none⟩ (.int .i64 s0)) ⟨g7,1,none⟩ (.int .i64 s1)) ⟨g7,2,none⟩ (.int .i64 s2)) ⟨g7,3,none⟩ (.int .i64 s3)) ⟨g7,4,none⟩ (.int .i64 s4)) ⟨g7,5,none⟩ (.int .i64 s5)) ⟨g7,6,none⟩ (.int .i64 s6)) ⟨g7,7,none⟩ (.int .i64 s7)) ⟨g7,8,none⟩ (.int .i64 s8):=⟨_,rfl⟩;have hb9:Blk W9 g7 dR #[.int .i64 s0,.int .i64 s1,.int .i64 s2,.int .i64 s3,.int .i64 s4,.int .i64 s5,.int .i64 s6,.int .i64 s7,.int .i64 s8]:=by rw [hW9];exact wC ⟨s0,s1,s2,s3,s4,s5,s6,s7,s8⟩ hb5
  have hf9:Fr No W0 W9:=by rw [hW9];exact eH ⟨s0,s1,s2,s3,s4,s5,s6,s7,s8⟩ hf5 hs4
  obtain ⟨HW9,HB9,HF9⟩:=bP hW9 hb9 hf9;clear hW9 hb9 hf9;clear hb5 hf5 HB4 HF4 HW4 HG7
  go_upto_region 13 with fail
  rw [←HW9.out];clear y0 y1 y2 y3 y4 y5 y6 y7 y8 z0 z1 z2 z3 z4 z5 z6 z7 z8;have hkk:∀V,Fr H W9 V→V.cell? ⟨g7,0,none⟩=some (.int .i64 s0)∧V.cell? ⟨g7,1,none⟩=some (.int .i64 s1)∧V.cell? ⟨g7,2,none⟩=some (.int .i64 s2)∧V.cell? ⟨g7,3,none⟩=some (.int .i64 s3)∧V.cell? ⟨g7,4,none⟩=some (.int .i64 s4)∧V.cell? ⟨g7,5,none⟩=some (.int .i64 s5)∧V.cell? ⟨g7,6,none⟩=some (.int .i64 s6)∧V.cell? ⟨g7,7,none⟩=some (.int .i64 s7)∧V.cell? ⟨g7,8,none⟩=some (.int .i64 s8):=fun V hV=>let z:=(HB9.out).fr hV (fun hh=>by have:=hl g7 hh;omega);⟨z.cell 0,z.cell 1,z.cell 2,z.cell 3,z.cell 4,z.cell 5,z.cell 6,z.cell 7,z.cell 8⟩;obtain ⟨HP9,HR9,HTU⟩:=bP (fun W=>HP.out W9 HF9.out ⟨s0,s1,s2,s3,s4,s5,s6,s7,s8⟩ HNS.out W) (fun A c w1 W=>HR.out W9 HF9.out ⟨s0,s1,s2,s3,s4,s5,s6,s7,s8⟩ HNS.out A c w1 W) (HTU.out ⟨s0,s1,s2,s3,s4,s5,s6,s7,s8⟩);clear HP HR;generalize r.propose ⟨s0,s1,s2,s3,s4,s5,s6,s7,s8⟩=X at*;generalize r.fH ⟨s0,s1,s2,s3,s4,s5,s6,s7,s8⟩=xx at*;have HF0:=O (HF0.out.ah HF9.out);obtain ⟨x0,x1,x2,x3,x4,x5,x6,x7,x8⟩:=hkk W9 (Fr.refl _ _);have HKK:=O hkk;clear hkk
  go_wp2_with fail
  refine (HP9.out _ (Fr.refl _ _)).mono ?_;rintro e w5 ⟨A5,d5,rfl,q5⟩;have hk5:=HKK.out _ q5.frH;clear x0 x1 x2 x3 x4 x5 x6 x7 x8;obtain ⟨x0,x1,x2,x3,x4,x5,x6,x7,x8⟩:=hk5;have Q5:=O q5;clear q5
  go_wp2_with fail
  refine (HR9.out _ _ _ _ Q5.out (Fr.refl _ _)).mono ?_;rintro e w6 ⟨B6,d6,rfl,q6⟩;have Q6:=O q6;clear q6 Q5;clear x0 x1 x2 x3 x4 x5 x6 x7 x8
  go_wp2_with fail
  refine Q6.out.same.mono ?_;rintro e w7 ⟨rfl,t7⟩;have T7:=O t7;clear t7 Q6
  go_wp2_with fail
  refine T7.out.tT.mono ?_;rintro e w8 ⟨rfl,t8⟩;have T8:=O t8;clear t8 T7
  go_wp2_with fail
  go_ret
  exact ⟨rfl,BTo.of HF0.out T8.out oy HTU.out⟩
 ·have g7b:(b.tmod 7 == 0)=false:=by simpa using h7
  clear h7;have hkk:∀V,Fr H W4 V→V.cell? ⟨g7,0,none⟩=some (.int .i64 k0)∧V.cell? ⟨g7,1,none⟩=some (.int .i64 k1)∧V.cell? ⟨g7,2,none⟩=some (.int .i64 k2)∧V.cell? ⟨g7,3,none⟩=some (.int .i64 k3)∧V.cell? ⟨g7,4,none⟩=some (.int .i64 k4)∧V.cell? ⟨g7,5,none⟩=some (.int .i64 k5)∧V.cell? ⟨g7,6,none⟩=some (.int .i64 k6)∧V.cell? ⟨g7,7,none⟩=some (.int .i64 k7)∧V.cell? ⟨g7,8,none⟩=some (.int .i64 k8):=fun V hV=>let z:=(HB4.out).fr hV (fun hh=>by have:=hl g7 hh;omega);⟨z.cell 0,z.cell 1,z.cell 2,z.cell 3,z.cell 4,z.cell 5,z.cell 6,z.cell 7,z.cell 8⟩;obtain ⟨HP9,HR9,HTU⟩:=bP (fun W=>HP.out W4 HF4.out ⟨k0,k1,k2,k3,k4,k5,k6,k7,k8⟩ HNA.out W) (fun A c w1 W=>HR.out W4 HF4.out ⟨k0,k1,k2,k3,k4,k5,k6,k7,k8⟩ HNA.out A c w1 W) (HTU.out ⟨k0,k1,k2,k3,k4,k5,k6,k7,k8⟩);clear HP HR;generalize r.propose ⟨k0,k1,k2,k3,k4,k5,k6,k7,k8⟩=X at*;generalize r.fH ⟨k0,k1,k2,k3,k4,k5,k6,k7,k8⟩=xx at*;have HF0:=O (HF0.out.ah HF4.out);obtain ⟨x0,x1,x2,x3,x4,x5,x6,x7,x8⟩:=hkk W4 (Fr.refl _ _);have HKK:=O hkk;clear hkk
  go_wp2_with fail
  refine (HP9.out _ (Fr.refl _ _)).mono ?_;rintro e w5 ⟨A5,d5,rfl,q5⟩;have hk5:=HKK.out _ q5.frH;clear x0 x1 x2 x3 x4 x5 x6 x7 x8;obtain ⟨x0,x1,x2,x3,x4,x5,x6,x7,x8⟩:=hk5;have Q5:=O q5;clear q5
  go_wp2_with fail
  refine (HR9.out _ _ _ _ Q5.out (Fr.refl _ _)).mono ?_;rintro e w6 ⟨B6,d6,rfl,q6⟩;have Q6:=O q6;clear q6 Q5;clear x0 x1 x2 x3 x4 x5 x6 x7 x8
  go_wp2_with fail
  refine Q6.out.same.mono ?_;rintro e w7 ⟨rfl,t7⟩;have T7:=O t7;clear t7 Q6
  go_wp2_with fail
  refine T7.out.tT.mono ?_;rintro e w8 ⟨rfl,t8⟩;have T8:=O t8;clear t8 T7
  go_wp2_with fail
  go_ret
  exact ⟨rfl,BTo.of HF0.out T8.out oy HTU.out⟩
set_option maxHeartbeats 8000000 in
theorem ajg {w:World}{H E:Nat→Prop}{p q n:Nat}{r:Rs}(h:PA w H p q r n)(s:St9)(A:Option Addr)(c:Nat)(hs:SAt w H E s A c)(hsz:n+700000≤1000000000000)(hm:s.wh % 10=4):
  Calls Tryz.prog 16 #[.pointer (some ⟨p,0,none⟩),.pointer (some ⟨q,0,none⟩),s.v (.slice A s.m.es.length c)] w fun e w' =>e= .returned (.bool true)∧BTo w H p q r n (s.wh % 10=4) w' :=by
 have hM:=fun W=>dO s.wh 10 W dcd dcd;simp only [hm] at hM;have hok:=h.ok;have hl:=h.lt;obtain ⟨hE,hEH,hes,hlen,ha,hb⟩:=hs;have hM2:=hE.rd.2.2.1;have hM1:=hE.rd.2.2.2.1;unfold maxLen at hM1;obtain ⟨wh,a,b,kd,mf,mto,mt,ix,pv,cm,ok,es⟩:=s;simp only [St9.v] at*;obtain ⟨len,hle⟩:∃len,len=es.length:=⟨_,rfl⟩;simp only [←hle] at hlen hM2 hE ⊢;obtain ⟨W0,hW0⟩:∃W0,W0=w.alloc (.cells #[.int .i64 wh,.int .i64 a,.int .i64 b,.int .i64 kd,.int .i64 mf,.int .i64 mto,.int .i64 mt,.int .i64 ix,.int .i64 pv,.int .i64 cm,.bool ok,.slice A len c] wK):=⟨_,rfl⟩;obtain ⟨g,hg⟩:∃g,g=w.heap.size:=⟨_,rfl⟩;have hbk:Blk W0 g wK #[.int .i64 wh,.int .i64 a,.int .i64 b,.int .i64 kd,.int .i64 mf,.int .i64 mto,.int .i64 mt,.int .i64 ix,.int .i64 pv,.int .i64 cm,.bool ok,.slice A len c]:=by rw [hW0,hg];exact Blk.new _ _ _
 have hf0:Fr No w W0:=by rw [hW0];exact aj _ _
 have h0:=h.ak hf0;have hE0:=hE.ak hf0;rw [←hg] at hl;have hgl:=hbk.lt;have hbx:∀V,Fr H W0 V→(V.cell? ⟨g,0,none⟩=some (.int .i64 wh)∧V.cell? ⟨g,1,none⟩=some (.int .i64 a)∧V.cell? ⟨g,2,none⟩=some (.int .i64 b))∧V.cell? ⟨g,3,none⟩=some (.int .i64 kd)∧V.cell? ⟨g,4,none⟩=some (.int .i64 mf)∧V.cell? ⟨g,5,none⟩=some (.int .i64 mto)∧V.cell? ⟨g,6,none⟩=some (.int .i64 mt)∧V.cell? ⟨g,7,none⟩=some (.int .i64 ix)∧V.cell? ⟨g,8,none⟩=some (.int .i64 pv)∧V.cell? ⟨g,9,none⟩=some (.int .i64 cm)∧V.cell? ⟨g,10,none⟩=some (.bool ok)∧V.cell? ⟨g,11,none⟩=some (.slice A len c):=fun V hV=>let k:=hbk.fr hV (fun hh=>by have:=hl g hh;omega);⟨⟨k.cell 0,k.cell 1,k.cell 2⟩,k.cell 3,k.cell 4,k.cell 5,k.cell 6,k.cell 7,k.cell 8,k.cell 9,k.cell 10,k.cell 11⟩;obtain ⟨⟨c0,c1,c2⟩,c3,c4,c5,c6,c7,c8,c9,c10,c11⟩:=hbx W0 (Fr.refl _ _);clear hbk;have hP:=fun W keep (hf:Fr No W0 W)=>h0.crash keep hf;have hR:=fun F G w1 W keep (h1:Hf W0 H p q r r.crash n n F G w1) (hf:Fr No w1 W)=>h1.crash keep oy hf;have hTu:Turns (wh % 10=4) r r.crash:= .inl ⟨hm,rfl⟩;clear h h0 hE hE0;obtain ⟨HM,HBX,HW0,HG,HF0,HLE,HP,HR,HTU⟩:=aap hM hbx hW0 hg hf0 hle hP hR hTu;clear hM hbx hW0 hg hf0 hle hP hR hTu
 go_in
 go_upto_region 1 with fail
 rw [←HG.out,←HW0.out]
 go_wp2_with fail
 refine (HM.out _).mono ?_;rintro e w' ⟨rfl,rfl⟩
 go_wp2_with fail
 refine (wF _ _ _ _ oy oy oy).mono ?_;rintro e w' ⟨x,rfl,-,-,rfl⟩
 go_wp2_with fail
 refine (HP.out _ _ (Fr.refl _ _)).mono ?_;rintro e w5 ⟨rfl,F5,G5,q5⟩;clear c0 c1 c2 c3 c4 c5 c6 c7 c8 c9 c10 c11;obtain ⟨⟨c0,c1,c2⟩,-⟩:=HBX.out _ q5.fr;have Q5:=O q5;clear q5
 go_wp2_with fail
 refine (wF _ _ _ _ oy oy oy).mono ?_;rintro e w' ⟨y,rfl,-,-,rfl⟩
 go_wp2_with fail
 refine (HR.out _ _ _ _ _ Q5.out (Fr.refl _ _)).mono ?_;rintro e w6 ⟨rfl,t7⟩;have T7:=O t7;clear t7 Q5
 go_wp2_with fail
 refine T7.out.tT.mono ?_;rintro e w8 ⟨rfl,t8⟩;have T8:=O t8;clear t8 T7
 go_wp2_with fail
 go_ret
 exact ⟨rfl,BTo.of HF0.out T8.out oy HTU.out⟩
set_option maxHeartbeats 8000000 in
theorem ajf {w:World}{H E:Nat→Prop}{p q n:Nat}{r:Rs}(h:PA w H p q r n)(s:St9)(A:Option Addr)(c:Nat)(hs:SAt w H E s A c)(hsz:n+700000≤1000000000000)(hm:s.wh % 10=5):
  Calls Tryz.prog 16 #[.pointer (some ⟨p,0,none⟩),.pointer (some ⟨q,0,none⟩),s.v (.slice A s.m.es.length c)] w fun e w' =>e= .returned (.bool true)∧BTo w H p q r n (s.wh % 10=4) w' :=by
 have hM:=fun W=>dO s.wh 10 W dcd dcd;simp only [hm] at hM;have hok:=h.ok;have hl:=h.lt;obtain ⟨hE,hEH,hes,hlen,ha,hb⟩:=hs;have hM2:=hE.rd.2.2.1;have hM1:=hE.rd.2.2.2.1;unfold maxLen at hM1;obtain ⟨wh,a,b,kd,mf,mto,mt,ix,pv,cm,ok,es⟩:=s;simp only [St9.v] at*;obtain ⟨len,hle⟩:∃len,len=es.length:=⟨_,rfl⟩;simp only [←hle] at hlen hM2 hE ⊢;obtain ⟨W0,hW0⟩:∃W0,W0=w.alloc (.cells #[.int .i64 wh,.int .i64 a,.int .i64 b,.int .i64 kd,.int .i64 mf,.int .i64 mto,.int .i64 mt,.int .i64 ix,.int .i64 pv,.int .i64 cm,.bool ok,.slice A len c] wK):=⟨_,rfl⟩;obtain ⟨g,hg⟩:∃g,g=w.heap.size:=⟨_,rfl⟩;have hbk:Blk W0 g wK #[.int .i64 wh,.int .i64 a,.int .i64 b,.int .i64 kd,.int .i64 mf,.int .i64 mto,.int .i64 mt,.int .i64 ix,.int .i64 pv,.int .i64 cm,.bool ok,.slice A len c]:=by rw [hW0,hg];exact Blk.new _ _ _
 have hf0:Fr No w W0:=by rw [hW0];exact aj _ _
 have h0:=h.ak hf0;have hE0:=hE.ak hf0;rw [←hg] at hl;have hgl:=hbk.lt;have hbx:∀V,Fr H W0 V→(V.cell? ⟨g,0,none⟩=some (.int .i64 wh)∧V.cell? ⟨g,1,none⟩=some (.int .i64 a)∧V.cell? ⟨g,2,none⟩=some (.int .i64 b))∧V.cell? ⟨g,3,none⟩=some (.int .i64 kd)∧V.cell? ⟨g,4,none⟩=some (.int .i64 mf)∧V.cell? ⟨g,5,none⟩=some (.int .i64 mto)∧V.cell? ⟨g,6,none⟩=some (.int .i64 mt)∧V.cell? ⟨g,7,none⟩=some (.int .i64 ix)∧V.cell? ⟨g,8,none⟩=some (.int .i64 pv)∧V.cell? ⟨g,9,none⟩=some (.int .i64 cm)∧V.cell? ⟨g,10,none⟩=some (.bool ok)∧V.cell? ⟨g,11,none⟩=some (.slice A len c):=fun V hV=>let k:=hbk.fr hV (fun hh=>by have:=hl g hh;omega);⟨⟨k.cell 0,k.cell 1,k.cell 2⟩,k.cell 3,k.cell 4,k.cell 5,k.cell 6,k.cell 7,k.cell 8,k.cell 9,k.cell 10,k.cell 11⟩;obtain ⟨⟨c0,c1,c2⟩,c3,c4,c5,c6,c7,c8,c9,c10,c11⟩:=hbx W0 (Fr.refl _ _);clear hbk;have hE1:Ent W0 E (.slice A (⟨kd,mf,mto,mt,ix,pv,cm,ok,es⟩:Ms).es.length c) (⟨kd,mf,mto,mt,ix,pv,cm,ok,es⟩:Ms).es:=by rw [←hle];exact hE0
 have hP:=fun W (hf:Fr No W0 W)=>h0.handle ⟨kd,mf,mto,mt,ix,pv,cm,ok,es⟩ hE1 hEH hes (by rw [←hle];omega) oy hf;have hR:=fun A c w1 W (h1:Hf1 W0 H p q r n (r.handle ⟨kd,mf,mto,mt,ix,pv,cm,ok,es⟩) (n+700000) A c w1) (hf:Fr No w1 W)=>h1.handle hE1 hEH hes (by rw [←hle];omega) oy hf;have hTu:Turns (wh % 10=4) r (r.handle ⟨kd,mf,mto,mt,ix,pv,cm,ok,es⟩).1:= .inr ⟨by omega,Kept.handle hok _⟩;simp only [←hle] at hP hR;have alz:=fun V hV=>(hbx V hV).2;clear h h0 hE hE0 hE1 hm hbx;have hbx:=alz;clear alz;obtain ⟨HM,HBX,HW0,HG,HF0,HLE,HP,HR,HTU⟩:=aap hM hbx hW0 hg hf0 hle hP hR hTu;clear hM hbx hW0 hg hf0 hle hP hR hTu
 go_in
 go_upto_region 1 with fail
 rw [←HG.out,←HW0.out]
 go_wp2_with fail
 refine (HM.out _).mono ?_;rintro e w' ⟨rfl,rfl⟩
 go_wp2_with fail
 go_region_held3 (fun V=>V.cell? ⟨g,3,none⟩=some (.int .i64 kd)∧V.cell? ⟨g,4,none⟩=some (.int .i64 mf)∧V.cell? ⟨g,5,none⟩=some (.int .i64 mto)∧V.cell? ⟨g,6,none⟩=some (.int .i64 mt)∧V.cell? ⟨g,7,none⟩=some (.int .i64 ix)∧V.cell? ⟨g,8,none⟩=some (.int .i64 pv)∧V.cell? ⟨g,9,none⟩=some (.int .i64 cm)∧V.cell? ⟨g,10,none⟩=some (.bool ok)∧V.cell? ⟨g,11,none⟩=some (.slice A len c)) (first|exact K7.out|exact K6.out|exact K5.out|(refine HBX.out _ (Fr.mono (F:=No) ?_ fun _ h=>h.elim);(repeat (with_reducible first|assumption|exact Fr.refl _ _|refine Fr.alloc ?_ _|refine Fr.drew ?_|refine Fr.drewN ?_ _));done)) (first
  |(go_at_call 49;refine (HP.out _ (by (repeat (with_reducible first|assumption|exact Fr.refl _ _|refine Fr.alloc ?_ _|refine Fr.drew ?_|refine Fr.drewN ?_ _));done)).mono ?_;rintro e w5 ⟨A5,d5,rfl,q5⟩;have K5:=O (HBX.out _ q5.frH);have Q5:=O q5;clear q5)
  |(go_at_call 50;refine (HR.out _ _ _ _ Q5.out (by (repeat (with_reducible first|assumption|exact Fr.refl _ _|refine Fr.alloc ?_ _|refine Fr.drew ?_|refine Fr.drewN ?_ _));done)).mono ?_;rintro e w6 ⟨B6,d6,rfl,q6⟩;have K6:=O (HBX.out _ q6.frH);have Q6:=O q6;clear q6)
  |(go_at_call 40;refine Q6.out.same.mono ?_;rintro e w7 ⟨rfl,t7⟩;have K7:=O (HBX.out _ t7.frH);have T7:=O t7;clear t7))
 all_goals
  go_wp2_with fail
  refine T7.out.tT.mono ?_;rintro e w8 ⟨rfl,t8⟩;have T8:=O t8;clear t8 T7
  go_wp2_with fail
  go_ret
  exact ⟨rfl,BTo.of HF0.out T8.out oy HTU.out⟩
section
def Lq (w:World)(g1 ga gb:Nat)(sv:Array Value)(ok:Bool)(v:Value)(W:World):Prop:=ga=g1+1∧gb=g1+2∧Lk w g1 sv ok v W
section
variable {w W W' :World}{g1 ga gb:Nat}{sv:Array Value}{ok:Bool}{v:Value}
theorem Lq.of (h:Lk w g1 sv ok v W):Lq w g1 (g1+1) (g1+2) sv ok v W:=⟨rfl,rfl,h⟩
theorem Lq.set0 (h:Lq w g1 ga gb sv ok v W)(x:Int):Lq w g1 ga gb sv ok v (W.setCell ⟨gb,0,none⟩ (.int .i64 x)):=by
 obtain ⟨rfl,rfl,h⟩:=h;exact ⟨rfl,rfl,h.set0 x⟩
theorem Lq.set1 (h:Lq w g1 ga gb sv ok v W)(x:Int):Lq w g1 ga gb sv ok v (W.setCell ⟨gb,1,none⟩ (.int .i64 x)):=by
 obtain ⟨rfl,rfl,h⟩:=h;exact ⟨rfl,rfl,h.set1 x⟩
theorem Lq.set2 (h:Lq w g1 ga gb sv ok v W)(x:Int):Lq w g1 ga gb sv ok v (W.setCell ⟨gb,2,none⟩ (.int .i64 x)):=by
 obtain ⟨rfl,rfl,h⟩:=h;exact ⟨rfl,rfl,h.set2 x⟩
theorem Lq.aff (h:Lq w g1 ga gb sv ok v W)(x:Int):Lq w g1 ga gb sv ok v (W.setCell ⟨gb,3,none⟩ (.int .i64 x)):=by
 obtain ⟨rfl,rfl,h⟩:=h;exact ⟨rfl,rfl,h.aff x⟩
theorem Lq.zS (h:Lq w g1 ga gb sv ok v W)(x:Int):Lq w g1 ga gb sv ok v (W.setCell ⟨gb,4,none⟩ (.int .i64 x)):=by
 obtain ⟨rfl,rfl,h⟩:=h;exact ⟨rfl,rfl,h.zS x⟩
theorem Lq.aa8 (h:Lq w g1 ga gb sv ok v W)(x:Int):Lq w g1 ga gb sv ok v (W.setCell ⟨gb,5,none⟩ (.int .i64 x)):=by
 obtain ⟨rfl,rfl,h⟩:=h;exact ⟨rfl,rfl,h.aa8 x⟩
theorem Lq.abv (h:Lq w g1 ga gb sv ok v W)(x:Int):Lq w g1 ga gb sv ok v (W.setCell ⟨gb,6,none⟩ (.int .i64 x)):=by
 obtain ⟨rfl,rfl,h⟩:=h;exact ⟨rfl,rfl,h.abv x⟩
theorem Lq.aj7 (h:Lq w g1 ga gb sv ok v W)(x:Value):Lq w g1 ga gb sv ok x (W.setCell ⟨gb,8,none⟩ x):=by
 obtain ⟨rfl,rfl,h⟩:=h;exact ⟨rfl,rfl,h.aj7 x⟩
theorem Lq.frq (h:Lq w g1 ga gb sv ok v W):Fr No w W:=h.2.2.frq
theorem Lq.big (h:Lq w g1 ga gb sv ok v W):w.heap.size≤g1∧g1+2<W.heap.size∧g1<ga∧ga<gb∧gb<W.heap.size∧gb<g1+3:=by
 obtain ⟨rfl,rfl,h⟩:=h;have:=h.big
 omega
theorem Lq.frG {F:Nat→Prop}(h:Lq w g1 ga gb sv ok v W)(hf:Fr F W W')(hn:¬F g1∧¬F ga∧¬F gb)(hF:∀i,F i→w.heap.size≤i):Lq w g1 ga gb sv ok v W' :=by
 obtain ⟨rfl,rfl,h⟩:=h;exact ⟨rfl,rfl,h.frG hf hn hF⟩
theorem Lq.ak (h:Lq w g1 ga gb sv ok v W)(hf:Fr No W W'):Lq w g1 ga gb sv ok v W' :=⟨h.1,h.2.1,h.2.2.ak hf⟩
theorem Lq.drew (h:Lq w g1 ga gb sv ok v W):Lq w g1 ga gb sv ok v W.drew:=h.ak (Fr.refl No W).drew
theorem Lq.drewN (h:Lq w g1 ga gb sv ok v W)(n:Nat):Lq w g1 ga gb sv ok v (W.drewN n):=h.ak ((Fr.refl No W).drewN n)
theorem Lq.cells (h:Lq w g1 ga gb sv ok v W):∃kd mf mto mt ix pv cm,W.cell? ⟨gb,0,none⟩=some (.int .i64 kd)∧W.cell? ⟨gb,1,none⟩=some (.int .i64 mf)∧W.cell? ⟨gb,2,none⟩=some (.int .i64 mto)∧W.cell? ⟨gb,3,none⟩=some (.int .i64 mt)∧W.cell? ⟨gb,4,none⟩=some (.int .i64 ix)∧W.cell? ⟨gb,5,none⟩=some (.int .i64 pv)∧W.cell? ⟨gb,6,none⟩=some (.int .i64 cm)∧W.cell? ⟨gb,7,none⟩=some (.bool ok)∧W.cell? ⟨gb,8,none⟩=some v∧Blk W gb TMs (cZ kd mf mto mt ix pv cm ok v):=by
 obtain ⟨rfl,rfl,h⟩:=h;exact h.cells
theorem Lq.frozen (h:Lq w g1 ga gb sv ok v W)(i:Nat):W.frozen? ⟨gb,i,none⟩=false:=by
 obtain ⟨rfl,rfl,h⟩:=h;exact h.frozen i
theorem Lq.svc (h:Lq w g1 ga gb sv ok v W)(i:Nat):W.cell? ⟨g1,i,none⟩=sv[i]? :=h.2.2.svc i
theorem Lq.zero (h:Lq w g1 ga gb sv ok v W):Blk W ga TMs ms0:=by
 obtain ⟨rfl,rfl,h⟩:=h;exact let ⟨_,_,_,_,_,_,_,_,h0,_⟩:=h;h0
def LqL (w:World)(g1 ga gb:Nat)(sv:Array Value)(ok:Bool)(k:Nat)(W:World):Prop:=
 ∃es A c,Lq w g1 ga gb sv ok (.slice A es.length c) W∧bG W (fun b=>g1+3≤b) TLg 10 (.slice A es.length c) es.length (dD es)∧es.length=k∧∀x∈es,x.e.ok
theorem LqL.push {k:Nat}{es:List Lg}{A A' :Option Addr}{c c' :Nat}{x:Lg}(h:Lq w g1 ga gb sv ok (.slice A es.length c) W)(o:bG W (fun b=>g1+3≤b) TLg 10 (.slice A' (es.length+1) c') (es.length+1) (dD (es++[x])))(hk:es.length=k)(hes:∀y∈es,y.e.ok)(hx:x.e.ok):
  LqL w g1 ga gb sv ok (k+1) (W.setCell ⟨gb,8,none⟩ (.slice A' (es.length+1) c')):=by
 obtain ⟨rfl,rfl,h⟩:=h;obtain ⟨es',A2,c2,h1,h2⟩:=LkL.push h o hk hes hx;exact ⟨es',A2,c2,⟨rfl,rfl,h1⟩,h2⟩
end
end
section
section
variable {H:Type}{enc:TypeId×Value→H}{W:World}{n:Nat}{y:DataW H×List MemPlace}
structure SIn (W:World) (s:St9) (A:Option Addr) (c:Nat):Prop where
 ent:Ent W (fun i=>i<W.heap.size) (.slice A s.m.es.length c) s.m.es
 ok:∀x∈s.m.es,x.e.ok
 a: -9223372036854775808≤s.a∧s.a≤9223372036854775807
 b: -9223372036854775808≤s.b∧s.b≤9223372036854775807
abbrev StR:Type:=St9×Option Addr×Nat
abbrev StR.cells (x:StR):List Value:=x.1.cells (.slice x.2.1 x.1.m.es.length x.2.2)
end
structure ane (w:World) (A:Option Addr) (len cap:Nat) (l:List StR):Prop where
 count:l.length=len
 most:len≤maxLen
 anp:A=none→len=0
 reads:Rd w w.heap.size A (l.flatMap StR.cells)
 each:∀x∈l,SIn w x.1 x.2.1 x.2.2
def In_st9 (w:World)(v:Value):Prop:=∃A len cap l,v= .slice A len cap∧ane w A len cap l∧len≤cap∧cap≤maxLen
section
variable {w w' :World}{A:Option Addr}{len cap:Nat}{l:List StR}
theorem StR.aei (x:StR):x.cells.length=12:=rfl
theorem abr:∀(l:List StR) (i j:Nat) (x:StR),l[i]? =some x→j<12→(l.flatMap StR.cells)[i*12+j]? =x.cells[j]? :=by
 intro l
 induction l with
 |nil=>intro i j e h;simp at h
 |cons x l ih=>
  intro i j e h hj;have hl:x.cells.length=12:=rfl;simp only [List.flatMap_cons]
  rcases i with _|i
  ·simp at h
   subst h;rw [List.getElem?_append_left oy]
   congr 1
   omega
  ·rw [List.getElem?_append_right oy,hl,show (i+1)*12+j-12=i*12+j from by omega]
   exact ih i j e (by simpa using h) hj
theorem ane.at_ (h:ane w A len cap l){i:Nat}(hi:i<len):∃b off x,A=some ⟨b,off,none⟩∧b<w.heap.size∧l[i]? =some x∧SIn w x.1 x.2.1 x.2.2∧∀j v,x.cells[j]? =some v→w.cell? ⟨b,off+(i*12+j),none⟩=some v:=by
 have hix:i<l.length:=by rw [h.count];exact hi
 have hx:l[i]? =some l[i]:=List.getElem?_eq_getElem hix;have h0:(l.flatMap StR.cells)[i*12+0]? =_:=abr l i 0 _ hx oy
 rcases h.reads with hr|⟨b,off,e1,e2,e3⟩
 ·rw [hr] at h0
  cases h0
 ·refine ⟨b,off,l[i],e1,e2,hx,h.each _ (List.getElem_mem hix),fun j v hv=> ?_⟩
  have hj:j<12:=by
   rcases Nat.lt_or_ge j 12 with hj|hj
   ·exact hj
   ·rw [List.getElem?_eq_none (by rw [StR.aei];exact hj)] at hv
    cases hv
  have hg:=abr l i j _ hx hj;rw [hv] at hg;obtain ⟨hlt,hge⟩:=List.getElem?_eq_some_iff.1 hg;rw [e3 _ hlt,hge]
end
end
theorem Ent.aki {w:World}{G:Nat→Prop}{A:Option Addr}{n c k:Nat}{es:List Lg}(h:Ent w G (.slice A n c) es)(hk:k≤es.length):Ent w G (.slice A (es.take k).length c) (es.take k):=by
 obtain ⟨A',c',h1,h2,h3,h4,h5⟩:=h;injection h1 with e1 e2 e3;subst e1 e2 e3;have hl:(es.take k).length=k:=by rw [List.length_take];omega
 refine ⟨A,c,rfl,fun ha=>by have:=h2 ha;omega,by omega,h4,?_⟩
 rcases h5 with rfl|⟨b,off,e1,e2,e3,e4⟩
 ·exact .inl (by simp)
 ·refine .inr ⟨b,off,e1,e2,e3,fun j hj=> ?_⟩
  have hlj:(dD (es.take k)).length=k*10:=by rw [bg,hl]
  have hj2:j<(dD es).length:=by rw [bg];rw [hlj] at hj;have:k*10≤es.length*10:=Nat.mul_le_mul_right _ hk;omega
  rw [e4 j hj2]
  congr 1
  have hs:dD es=dD (es.take k)++dD (es.drop k):=by
   unfold dD;rw [←List.flatMap_append,List.take_append_drop]
  simp only [hs];rw [List.getElem_append_left hj]
theorem uJ {w W:World}{A:Option Addr}{len cap:Nat}{l:List StR}(h:ane w A len cap l)(hlc:len≤cap)(hf:Fr No w W):
  Calls Tryz.prog 11 #[.slice A len cap] W fun e w' =>∃B:Bool,e= .returned (.bool B)∧(B=true→len≤40∧∀x∈l,x.1.m.es.length≤8)∧w' =W:=by
 have hM:=h.most;unfold maxLen at hM;obtain ⟨H,HF⟩:=aO h hf;clear h hf
 go_in
 by_cases h40:len≤40
 case neg=>
  have b1:decide ((40:Int)<(len:Int))=true:=dtt;have b1n:decide (40<len)=true:=dtt
  go_wp2_with fail
  go_ret
  exact ⟨false,rfl,(fun h=>by cases h),rfl⟩
 have b1:decide ((40:Int)<(len:Int))=false:=dff;have b1n:decide (40<len)=false:=dff
 go_wp2_with fail
 go_loopw [3] (fun o wr=>∃k:Nat,k≤len∧o= .int .i64 k∧wr=W∧∀x∈l.take k,x.1.m.es.length≤8) (fun o _=>len-(intOf o).toNat)
 case atStart=>exact ⟨0,Nat.zero_le _,rfl,rfl,fun x hx=>by simp at hx⟩
 case round=>
  obtain ⟨k,hk,rfl,hw,hall⟩:=hrel
  by_cases hlt:k<len
  case neg=>
   have b2:decide (k<len)=false:=decide_eq_false hlt;have b3:decide ((k:Int)<(len:Int))=false:=dff;have al6:∀x∈l,x.1.m.es.length≤8:=fun x hx=>hall x (by rw [List.take_of_length_le (by rw [H.out.count];omega)];exact hx);clear hall;have apc:=O al6;clear al6
   go_wp2_with fail
   go_ret
   exact ⟨true,rfl,fun _=>⟨h40,apc.out⟩,by first|exact hw|rfl⟩
  have b2:decide (k<len)=true:=decide_eq_true hlt;have b3:decide ((k:Int)<(len:Int))=true:=dtt;have hlt2:(k:Int)<(len:Int):=by omega
  obtain ⟨b,off,x,rfl,hb,hx,hs,hc⟩:=H.out.at_ hlt;have c11:wr.cell? ⟨b,off+k*12+11,none⟩=some (.slice x.2.1 x.1.m.es.length x.2.2):=by
   rw [hw,Nat.add_assoc];exact (HF.out.cell (p:=⟨b,off+(k*12+11),none⟩) hb fun h=>h).trans (hc 11 _ rfl)
  have hsn:l.take (k+1)=l.take k++[x]:=by rw [List.take_add_one,hx];rfl
  have hn:=hs.ent.rd.2.2.1;have hn2:=hs.ent.rd.2.2.2.1;unfold maxLen at hn2;have hnext:x.1.m.es.length≤8→∀y∈l.take (k+1),y.1.m.es.length≤8:=fun h8 y hy=>by
   rw [hsn] at hy
   rcases List.mem_append.1 hy with hy|hy
   ·exact hall y hy
   ·rw [List.mem_singleton.1 hy];exact h8
  generalize x.1.m.es.length=nn at*;obtain ⟨xs,Ax,cx⟩:=x;simp only at c11 hn hn2;clear hx hs hc hsn hall hb;obtain ⟨fJ,HW⟩:=aO hnext hw;clear hnext hw
  by_cases h8:nn≤8
  ·have b4:decide ((8:Int)<(nn:Int))=false:=dff
   have b5:decide (8<nn)=false:=dff
   go_wp2_with fail
   go_roundw
   case rel=>exact ⟨k+1,by omega,by go_num,HW.out,fJ.out h8⟩
   case measure=>simp [intOf];omega
  ·have b4:decide ((8:Int)<(nn:Int))=true:=dtt
   have b5:decide (8<nn)=true:=dtt
   go_wp2_with fail
   go_ret
   exact ⟨false,rfl,(fun h=>by cases h),by first|exact HW.out|rfl⟩
theorem SIn.at_ {w W:World}{H:Nat→Prop}{s:St9}{A:Option Addr}{c:Nat}(h:SIn w s A c)(hf:Fr No w W)(hH:∀i,H i→w.heap.size≤i)(hl:s.m.es.length≤8):SAt W H (fun i=>i<w.heap.size) s A c:=
 ⟨h.ent.ak hf,fun i hi hh=>by have:=hH i hh;omega,h.ok,hl,h.a,h.b⟩
def PIn (w:World)(p q:Nat)(r:Rs)(n:Nat)(W:World):Prop:=∃H,PA W H p q r n∧(∀i,H i→w.heap.size≤i)∧Fr No w W
theorem PIn.fr {w W:World}{p q n:Nat}{r:Rs}(h:PIn w p q r n W):Fr No w W:=let ⟨_,_,_,h⟩:=h;h
theorem PIn.ak {w W W' :World}{p q n:Nat}{r:Rs}(h:PIn w p q r n W)(hf:Fr No W W'):PIn w p q r n W' :=by
 obtain ⟨H,h1,h2,h3⟩:=h;exact ⟨H,h1.ak hf,h2,h3.ah hf⟩
theorem PIn.next {w W W' :World}{H:Nat→Prop}{p q n:Nat}{r:Rs}{C:Prop}(h2:∀i,H i→w.heap.size≤i)(h3:Fr No w W)(hb:BTo W H p q r n C W'):∃r',Turns C r r'∧PIn w p q r' (n+700000) W' :=by
 obtain ⟨r',ht,hp⟩:=hb;obtain ⟨H',g1,g2,g3⟩:=hp.own h3 h2;exact ⟨r',ht,H',g1,g2,g3⟩
theorem PIn.same {w W:World}{p q n:Nat}{r:Rs}(h:PIn w p q r n W):Calls Tryz.prog 20 #[.pointer (some ⟨p,0,none⟩),.pointer (some ⟨q,0,none⟩)] W fun e w' =>e= .returned (.bool true)∧PIn w p q r n w' :=by
 have hh:=h;obtain ⟨H,⟨F,G,a1,a2,-⟩,-⟩:=h;exact (pU a1 a2).mono fun e w' ⟨he,hf⟩=>⟨he,hh.ak hf⟩
theorem PIn.start {w W1 W2:World}{F G:Nat→Prop}{p q i n:Nat}(h1:RAt W1 F p (dF i n) 0)(n1:∀b,F b→w.heap.size≤b)(f1:Fr No w W1)(h2:bR W2 G q (dF i n) 0)(n2:∀b,G b→W1.heap.size≤b)(f2:Fr No W1 W2):PIn w p q (dF i n) 0 W2:=by
 refine ⟨fun b=>F b∨G b,⟨F,G,h1.ak f2,h2,fun b hF hG=> ?_,fun b hb=> .inl hb,fun b hb=> .inr hb,fun b hb=> ?_⟩,fun b hb=> ?_,f1.ah f2⟩
 ·have:=h1.lt b hF;have:=n2 b hG;omega
 ·rcases hb with hb|hb
  ·exact nll (h1.lt b hb) f2.size
  ·exact h2.lt b hb
 ·rcases hb with hb|hb
  ·exact n1 b hb
  ·exact Nat.le_trans f1.size (n2 b hb)
section
section
variable {w w' w1:World}{F G Fj:Nat→Prop}{p:Nat}{r r' :Rs}{n m:Nat}{V X M:Value}{bs xs ms:List Value}
theorem aeg {W3 W5:World}{g k:Nat}{e:TypeId}{v1:Value}{ys:List Value}(f:Fr No w W3)(gN:w.heap.size≤g)(gl:g<W3.heap.size)(o:Own W5 (fun i=>W3.heap.size≤i) e v1 ys)(f5:Fr (fun i=>W3.heap.size≤i) W3 W5):
  Fr No w (W5.setCell ⟨g,k,none⟩ v1)∧Own (W5.setCell ⟨g,k,none⟩ v1) (fun i=>W3.heap.size≤i∧i<(W5.setCell ⟨g,k,none⟩ v1).heap.size) e v1 ys∧Fr (fun i=>i=g) W3 (W5.setCell ⟨g,k,none⟩ v1):=by
 have f35:Fr No W3 W5:=(Fr.refl No W3).aA f5 fun i hi=>hi;have fs:=dx W5 ⟨g,k,none⟩ v1;have f36:Fr (fun i=>i=g) W3 (W5.setCell ⟨g,k,none⟩ v1):=(f35.mono (G:=fun i=>i=g) fun _ h=>h.elim).trans fs fun i hi=> .inl hi;have o6:Own (W5.setCell ⟨g,k,none⟩ v1) (fun i=>W3.heap.size≤i) e v1 ys:=o.fr fs fun i hi he=>by
  have he:i=g:=he;have hi:W3.heap.size≤i:=hi
  omega
 exact ⟨f.aA f36 fun i hi=>by have hi:i=g:=hi;omega,⟨o6.1,fun i hi=>⟨o6.2 i hi,o6.lt i hi⟩⟩,f36⟩
theorem um {W W' :World}{g:Nat}{e:TypeId}{v:Value}{xs:List Value}{B C:Nat}(o:Own W (fun i=>B≤i∧i<C) e v xs)(f:Fr (fun i=>i=g) W W')(hg:g<B):Own W' (fun i=>B≤i∧i<C) e v xs:=
 o.fr f fun i hi he=>by have he:i=g:=he;have:=hi.1;omega
set_option maxHeartbeats 8000000 in
theorem ah6 (h:bR w F p r n):Calls Tryz.prog 19 #[.pointer (some ⟨p,0,none⟩)] w fun e w' =>∃p' F',e= .returned (.pointer (some ⟨p',0,none⟩))∧bR w' F' p' r n∧(∀i,F' i→w.heap.size≤i)∧Fr No w w' :=by
 obtain ⟨j,Fj,V,X,M,bs,xs,ms,h1,h2,⟨d,ys,k,rs,hj,hg,hl,hn,hy⟩,h4,h5,h6,h7,h8⟩:=h;have hcp:=fun W (hf:Fr No w W)=>aif (hj.ak hf) hl;obtain ⟨iv,hiv,aru,ars,arq⟩:=info_parts vY;obtain ⟨i0,hi0,hz0,hz1,hz2⟩:=info_parts qH;obtain ⟨A1,c1,rfl,n1⟩:=h7.ov.form;obtain ⟨A2,c2,rfl,n2⟩:=h7.ox.form;obtain ⟨A3,c3,rfl,n3⟩:=h7.om.form;have r1:=h7.ov.rd;have r2:=h7.ox.rd;have r3:=h7.om.rd;obtain ⟨⟨l1,u1⟩,⟨l2,u2⟩,l3,u3⟩:=h7.one;have hsv:=h7.sv;have hsx:=h7.sx;have hpl:=h1.lt;obtain ⟨W0,hW0⟩:∃W0,W0=w.alloc (.cells (gH j r (.slice A1 bs.length c1) (.slice A2 xs.length c2) (.slice A3 ms.length c3)) TRR):=⟨_,rfl⟩;have hf0:Fr No w W0:=by rw [hW0];exact aj _ _
 obtain ⟨g,hg0⟩:∃g,g=w.heap.size:=⟨_,rfl⟩;have hb0:Blk W0 g TRR (gH j r (.slice A1 bs.length c1) (.slice A2 xs.length c2) (.slice A3 ms.length c3)):=by rw [hW0,hg0];exact Blk.new _ _ _
 have ana:=hb0.lt;obtain ⟨a0,a1,a2,a3,a4,a5,a6,a7⟩:w.cell? ⟨p,0,none⟩=some (.pointer (some ⟨j,0,none⟩))∧w.cell? ⟨p,1,none⟩=some (.int .i64 (r.id:Int))∧w.cell? ⟨p,2,none⟩=some (.int .i64 (r.n:Int))∧w.cell? ⟨p,3,none⟩=some (.int .i64 r.role)∧w.cell? ⟨p,4,none⟩=some (.int .i64 (r.commit:Int))∧w.cell? ⟨p,5,none⟩=some (.slice A1 bs.length c1)∧w.cell? ⟨p,6,none⟩=some (.slice A2 xs.length c2)∧w.cell? ⟨p,7,none⟩=some (.slice A3 ms.length c3):=
  ⟨h1.cell 0,h1.cell 1,h1.cell 2,h1.cell 3,h1.cell 4,h1.cell 5,h1.cell 6,h1.cell 7⟩
 have d0:W0.cell? ⟨p,0,none⟩=some (.pointer (some ⟨j,0,none⟩)):=(h1.fr hf0 id).cell 0;have hpc:∀W,Fr No w W→W.cell? ⟨p,5,none⟩=some (.slice A1 bs.length c1)∧W.cell? ⟨p,6,none⟩=some (.slice A2 xs.length c2)∧W.cell? ⟨p,7,none⟩=some (.slice A3 ms.length c3):=fun W hW=>let q:=h1.fr hW id;⟨q.cell 5,q.cell 6,q.cell 7⟩;have hfin:∀(w2:World) (j' d' :Nat) (F2:Nat→Prop) (W3 W6 W9 W12:World) (v1 v2 v3:Value),gy w2 F2 j' d' ys k r.js→(∀i,F2 i→W0.heap.size≤i)→Fr No W0 w2→Fr (fun i=>i=g) w2 W3→Fr (fun i=>i=g) W3 W6→Fr (fun i=>i=g) W6 W9→Fr (fun i=>i=g) W9 W12→Own W6 (fun i=>W3.heap.size≤i∧i<W6.heap.size) TBo v1 bs→Own W9 (fun i=>W6.heap.size≤i∧i<W9.heap.size) TIn v2 xs→Own W12 (fun i=>W9.heap.size≤i∧i<W12.heap.size) TIn v3 ms→
   Blk W12 g TRR (gH j' r v1 v2 v3)→∃p' F',Ending.returned (.pointer (some ⟨g,0,none⟩))= .returned (.pointer (some ⟨p',0,none⟩))∧bR W12 F' p' r n∧(∀i,F' i→w.heap.size≤i)∧Fr No w W12:=by
  intro w2 j' d' F2 W3 W6 W9 W12 v1 v2 v3 hj2 hF2 hf2 f3 f6 f9 f12 o1 o2 o3 hb;have s2:=hf2.size;have s3:=f3.size;have s6:=f6.size;have s9:=f9.size;have s12:=f12.size;have hgF:¬F2 g:=fun hh=>by have:=hF2 g hh;omega
  have fall:Fr (fun i=>i=g) w2 W12:=((f3.trans f6 fun i hi=> .inl hi).trans f9 fun i hi=> .inl hi).trans f12 fun i hi=> .inl hi;have ap7:=hj2.fr fall (fun i hi he=>hgF ((show i=g from he)▸hi));have o1' :Own W12 (fun i=>W3.heap.size≤i∧i<W6.heap.size) TBo v1 bs:=um (um o1 f9 oy) f12 oy;have o2' :Own W12 (fun i=>W6.heap.size≤i∧i<W9.heap.size) TIn v2 xs:=um o2 f12 oy;refine ⟨g,fun i=>i<W12.heap.size∧w.heap.size≤i,rfl,⟨j',F2,v1,v2,v3,bs,xs,ms,hb,⟨by omega,by omega⟩,⟨d',ys,k,rs,ap7,hg,hl,hn,hy⟩,fun i hi=>⟨ap7.lt i hi,by have:=hF2 i hi;have:=hf0.size;omega⟩,hgF,fun i hi=>hi.1,
   ⟨o1'.mono fun i hi=>⟨by have:=hi.2;omega,by have:=hi.1;have:=hf0.size;omega⟩,o2'.mono fun i hi=>⟨by have:=hi.2;omega,by have:=hi.1;have:=hf0.size;omega⟩,o3.mono fun i hi=>⟨hi.2,by have:=hi.1;have:=hf0.size;omega⟩,
    fun q hq hh=> ?_,fun q hq hh=> ?_,fun q hq hh=> ?_,fun q hq hh=> ?_,hsv,hsx,⟨⟨l1,u1⟩,⟨l2,u2⟩,l3,u3⟩⟩,h8⟩,fun i hi=>hi.2,?_⟩
  ·have:=(o1'.2 q hq).1;have:=hj2.lt q hh;omega
  ·have:=(o2'.2 q hq).1;have:=hj2.lt q hh;omega
  ·have:=(o3.2 q hq).1;have:=hj2.lt q hh;omega
  ·have:=(o2'.2 q hq).2;have:=(o3.2 q hh).1;omega
  ·exact (hf0.ah hf2).aA fall (fun i hi=>by have hi:i=g:=hi;omega)
 clear h1 h2 hj hg hl hn hy h4 h5 h6 h7 h8 hsv hsx;unfold gH at hW0;obtain ⟨HCP,HW0,HG0,HF0,HB0,bS,HPC,R1,R2,R3,U1,U2⟩:=gY hcp hW0 hg0 hf0 hb0 hfin hpc r1 r2 r3 u1 u2;have U3:=O u3;clear hcp hW0 hg0 hf0 hb0 hfin hpc r1 r2 r3 u1 u2 u3
 go_in
 go_upto_region 2 with fail
 rw [←HG0.out,←HW0.out]
 go_wp2_with fail
 refine (HCP.out _ HF0.out).mono ?_;rintro e w2 ⟨j',d',F2,rfl,x2,n2',f2⟩;have b2:=HB0.out.fr f2 id;have k0:w2.cell? ⟨g,0,none⟩=some (.pointer (some ⟨j,0,none⟩)):=b2.cell 0;have kf:=b2.frozen 0;obtain ⟨W3,hW3⟩:∃W3,W3=w2.setCell ⟨g,0,none⟩ (.pointer (some ⟨j',0,none⟩)):=⟨_,rfl⟩;have f3:Fr (fun i=>i=g) w2 W3:=by rw [hW3];exact dx w2 ⟨g,0,none⟩ _
 have B3:=O (show Blk W3 g TRR (gH j' r (.slice A1 bs.length c1) (.slice A2 xs.length c2) (.slice A3 ms.length c3)) by rw [hW3];exact (b2.aU 0 _).conv rfl);have g3:Fr No w W3:=(HF0.out.ah f2).aA f3 (fun i hi=>by have hi:i=g:=hi;have:=HG0.out;omega);have HGN:=O (show w.heap.size≤g by have:=HG0.out;omega);clear b2 a0 a1 a2 a3 a4 a5 a6 a7 d0;have X2:=O x2;have N2' :=O n2';have F2' :=O f2;have HW3:=O hW3;have F3' :=O f3;clear x2 n2' f2 hW3 f3;obtain ⟨a5,a6,a7⟩:=HPC.out _ g3;have G3:=O g3;have z5:W3.cell? ⟨g,5,none⟩=some (.slice A1 bs.length c1):=B3.out.cell 5;have zf:=B3.out.frozen 5;clear g3;have am6:p<W3.heap.size:=mD a5;have am9:=B3.out.lt
 go_upto_region 3 with fail
 rw [←HW3.out];clear k0 kf
 go_upto_region 4 with (at_builtin;(refine ay _ rfl (.tmp 13) (.tmp 17) _ rfl 0 TBo iv _ 1 Tryz.underlying80 hiv aru ars arq rfl (.slice (some ⟨W3.heap.size,0,none⟩) 0 0) 0 [] rfl (Own.made W3 TBo).1 w.heap.size A1 bs.length c1 bs rfl n1 (R1.out.ak (G3.out.ah (aj _ _)) (Nat.le_refl _)) rfl U1.out mxl oy (Nat.zero_le _) ?_;intro V w5 happ;obtain ⟨o5,f5⟩:=Own.copied happ rfl rfl;obtain ⟨D1,m1,ev,-⟩:=o5.form;subst ev;have y5:w5.cell? ⟨g,5,none⟩=some (.slice A1 bs.length c1):=((B3.out.fr (aj _ _) id).fr f5 (fun hh=>by have:=B3.out.lt;omega)).cell 5;have y6:=((B3.out.fr (aj _ _) id).fr f5 (fun hh=>by have:=B3.out.lt;omega)).frozen 5;have Q5:=O (And.intro o5 f5);clear o5 f5 happ))
 obtain ⟨o5,f5⟩:=Q5.out;obtain ⟨W6,hW⟩:∃W6,W6=w5.setCell ⟨g,5,none⟩ (.slice D1 bs.length m1):=⟨_,rfl⟩;have hz:=aeg (k:=5) G3.out HGN.out B3.out.lt o5 ((Fr.alloc (Fr.refl _ _) _).trans f5 fun i hi=> .inl hi);rw [←hW] at hz ⊢;obtain ⟨g6,o6,f6⟩:=hz;have B6:=O (show Blk W6 g TRR (gH j' r (.slice D1 bs.length m1) (.slice A2 xs.length c2) (.slice A3 ms.length c3)) by rw [hW];exact (((B3.out.fr (aj _ _) id).fr f5 (fun hh=>by have:=B3.out.lt;omega)).aU 5 _).conv rfl);clear Q5 y5 y6 a5 a6 a7 z5 zf hW o5 f5;obtain ⟨a5,a6,a7⟩:=HPC.out _ g6;obtain ⟨G6,O6,F6⟩:=bP g6 o6 f6;clear g6 o6 f6;have z5:W6.cell? ⟨g,6,none⟩=some (.slice A2 xs.length c2):=B6.out.cell 6;have zf:=B6.out.frozen 6;clear am6 am9;have am6:p<W6.heap.size:=mD a5;have am9:=B6.out.lt
 go_upto_region 5 with (at_builtin;refine ay _ rfl (.tmp 20) (.tmp 24) _ rfl 0 TIn i0 _ 8 Tryz.underlying81 hi0 hz0 hz1 hz2 rfl (.slice (some ⟨W6.heap.size,0,none⟩) 0 0) 0 [] rfl (Own.made W6 TIn).1 w.heap.size A2 xs.length c2 xs rfl n2 (R2.out.ak (G6.out.ah (aj _ _)) (Nat.le_refl _)) rfl U2.out mxl oy (Nat.zero_le _) ?_;intro V w5 happ;obtain ⟨o5,f5⟩:=Own.copied happ rfl rfl;obtain ⟨D2,m2,ev,-⟩:=o5.form;subst ev;have y5:w5.cell? ⟨g,6,none⟩=some (.slice A2 xs.length c2):=((B6.out.fr (aj _ _) id).fr f5 (fun hh=>by have:=B6.out.lt;omega)).cell 6;have y6:=((B6.out.fr (aj _ _) id).fr f5 (fun hh=>by have:=B6.out.lt;omega)).frozen 6;have Q5:=O (And.intro o5 f5);clear o5 f5 happ)
 obtain ⟨o5,f5⟩:=Q5.out;obtain ⟨W9,hW⟩:∃W9,W9=w5.setCell ⟨g,6,none⟩ (.slice D2 xs.length m2):=⟨_,rfl⟩;have hz:=aeg (k:=6) G6.out HGN.out B6.out.lt o5 ((Fr.alloc (Fr.refl _ _) _).trans f5 fun i hi=> .inl hi);rw [←hW] at hz ⊢;obtain ⟨g6,o6,f6⟩:=hz;have B9:=O (show Blk W9 g TRR (gH j' r (.slice D1 bs.length m1) (.slice D2 xs.length m2) (.slice A3 ms.length c3)) by rw [hW];exact (((B6.out.fr (aj _ _) id).fr f5 (fun hh=>by have:=B6.out.lt;omega)).aU 6 _).conv rfl);clear Q5 y5 y6 a5 a6 a7 z5 zf hW o5 f5;obtain ⟨a5,a6,a7⟩:=HPC.out _ g6;obtain ⟨G9,O9,F9⟩:=bP g6 o6 f6;clear g6 o6 f6;have z5:W9.cell? ⟨g,7,none⟩=some (.slice A3 ms.length c3):=B9.out.cell 7;have zf:=B9.out.frozen 7;clear am6 am9;have am6:p<W9.heap.size:=mD a5;have am9:=B9.out.lt
 go_upto_region 6 with (at_builtin;refine ay _ rfl (.tmp 27) (.tmp 31) _ rfl 0 TIn i0 _ 8 Tryz.underlying81 hi0 hz0 hz1 hz2 rfl (.slice (some ⟨W9.heap.size,0,none⟩) 0 0) 0 [] rfl (Own.made W9 TIn).1 w.heap.size A3 ms.length c3 ms rfl n3 (R3.out.ak (G9.out.ah (aj _ _)) (Nat.le_refl _)) rfl U3.out mxl oy (Nat.zero_le _) ?_;intro V w5 happ;obtain ⟨o5,f5⟩:=Own.copied happ rfl rfl;obtain ⟨D3,m3,ev,-⟩:=o5.form;subst ev;have y5:w5.cell? ⟨g,7,none⟩=some (.slice A3 ms.length c3):=((B9.out.fr (aj _ _) id).fr f5 (fun hh=>by have:=B9.out.lt;omega)).cell 7;have y6:=((B9.out.fr (aj _ _) id).fr f5 (fun hh=>by have:=B9.out.lt;omega)).frozen 7;have Q5:=O (And.intro o5 f5);clear o5 f5 happ)
 go_wp2_with fail
 go_ret
 obtain ⟨o5,f5⟩:=Q5.out;obtain ⟨WC,hW⟩:∃WC,WC=w5.setCell ⟨g,7,none⟩ (.slice D3 ms.length m3):=⟨_,rfl⟩;have hz:=aeg (k:=7) G9.out HGN.out B9.out.lt o5 ((Fr.alloc (Fr.refl _ _) _).trans f5 fun i hi=> .inl hi);rw [←hW] at hz ⊢;obtain ⟨g6,o6,f6⟩:=hz;exact bS.out _ _ _ _ _ _ _ _ _ _ _ X2.out N2'.out F2'.out F3'.out F6.out F9.out f6 O6.out O9.out o6 (by rw [hW];exact (((B9.out.fr (aj _ _) id).fr f5 (fun hh=>by have:=B9.out.lt;omega)).aU 7 _).conv rfl)
end
end
end Go.Proofs.YtjnfmfmglehmbaaGreat
