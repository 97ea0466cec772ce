/-
  The walk of the law's 'both' of the replica: Handle of a likely message.
-/
import Derived.Test.YtjnfmfmglehmbaaGreatQ59
import Derived.Test.YtjnfmfmglehmbaaGreatQ22
namespace Go.Proofs.YtjnfmfmglehmbaaGreat
open Go.ChangeShapes Go.WideShapes Go.ChangeAt Go.RowKit
set_option linter.unusedVariables false
set_option maxRecDepth 100000
set_option maxHeartbeats 4000000
set_option maxHeartbeats 8000000 in
theorem aje {w:World}{H E:Nat→Prop}{p q n:Nat}{r:Rs}(h:PA w H p q r n)(s:St9)(A:Option Addr)(c:Nat)(hs:SAt w H E s A c)(hsz:n+700000≤1000000000000)(hm:6≤s.wh % 10):
  Calls Tryz.prog 16 #[.pointer (some ⟨p,0,none⟩),.pointer (some ⟨q,0,none⟩),s.v (.slice A s.m.es.length c)] w fun e w' =>e= .returned (.bool true)∧BTo w H p q r n (s.wh % 10=4) w' :=by
 have hM:=fun W=>dO s.wh 10 W dcd dcd;have hok:=h.ok;have hl:=h.lt;obtain ⟨hE,hEH,hes,hlen,ha,hb⟩:=hs;have hM2:=hE.rd.2.2.1;have hM1:=hE.rd.2.2.2.1;unfold maxLen at hM1;obtain ⟨wh,a,b,kd,mf,mto,mt,ix,pv,cm,ok,es⟩:=s;simp only [St9.v] at*;obtain ⟨len,hle⟩:∃len,len=es.length:=⟨_,rfl⟩;simp only [←hle] at hlen hM2 hE ⊢;obtain ⟨W0,hW0⟩:∃W0,W0=w.alloc (.cells #[.int .i64 wh,.int .i64 a,.int .i64 b,.int .i64 kd,.int .i64 mf,.int .i64 mto,.int .i64 mt,.int .i64 ix,.int .i64 pv,.int .i64 cm,.bool ok,.slice A len c] wK):=⟨_,rfl⟩;obtain ⟨g,hg⟩:∃g,g=w.heap.size:=⟨_,rfl⟩;have hbk:Blk W0 g wK #[.int .i64 wh,.int .i64 a,.int .i64 b,.int .i64 kd,.int .i64 mf,.int .i64 mto,.int .i64 mt,.int .i64 ix,.int .i64 pv,.int .i64 cm,.bool ok,.slice A len c]:=by rw [hW0,hg];exact Blk.new _ _ _
 have hf0:Fr No w W0:=by rw [hW0];exact aj _ _
 have h0:=h.ak hf0;have hE0:=hE.ak hf0;rw [←hg] at hl;have hgl:=hbk.lt;have hbx:∀V,Fr H W0 V→(V.cell? ⟨g,0,none⟩=some (.int .i64 wh)∧V.cell? ⟨g,1,none⟩=some (.int .i64 a)∧V.cell? ⟨g,2,none⟩=some (.int .i64 b))∧V.cell? ⟨g,3,none⟩=some (.int .i64 kd)∧V.cell? ⟨g,4,none⟩=some (.int .i64 mf)∧V.cell? ⟨g,5,none⟩=some (.int .i64 mto)∧V.cell? ⟨g,6,none⟩=some (.int .i64 mt)∧V.cell? ⟨g,7,none⟩=some (.int .i64 ix)∧V.cell? ⟨g,8,none⟩=some (.int .i64 pv)∧V.cell? ⟨g,9,none⟩=some (.int .i64 cm)∧V.cell? ⟨g,10,none⟩=some (.bool ok)∧V.cell? ⟨g,11,none⟩=some (.slice A len c):=fun V hV=>let k:=hbk.fr hV (fun hh=>by have:=hl g hh;omega);⟨⟨k.cell 0,k.cell 1,k.cell 2⟩,k.cell 3,k.cell 4,k.cell 5,k.cell 6,k.cell 7,k.cell 8,k.cell 9,k.cell 10,k.cell 11⟩;obtain ⟨⟨c0,c1,c2⟩,c3,c4,c5,c6,c7,c8,c9,c10,c11⟩:=hbx W0 (Fr.refl _ _);clear hbk;have hq:∀W,Fr No W0 W→Calls Tryz.prog 51 #[.pointer (some ⟨q,0,none⟩),.agg #[.int .i64 wh,.int .i64 a,.int .i64 b,.int .i64 kd,.int .i64 mf,.int .i64 mto,.int .i64 mt,.int .i64 ix,.int .i64 pv,.int .i64 cm,.bool ok,.slice A len c]] W (aoo W):=fun W hf=>by
  obtain ⟨F,G,h1,h2,-⟩:=h0.ak hf;have hz:=aan h2 ⟨wh,a,b,⟨kd,mf,mto,mt,ix,pv,cm,ok,es⟩⟩ A c (by simp only [←hle];exact hE0.ak hf) (by rw [←hle];exact hlen);simp only [St9.v,←hle] at hz;exact hz
 have hP:=fun W2 (y:Ms) Am cm Ey (hf2:Fr No W0 W2) (hEy:Ent W2 Ey (.slice Am y.es.length cm) y.es) (hEb:∀i,Ey i→W0.heap.size≤i) (hoy:∀x∈y.es,x.e.ok) (hly:y.es.length≤8) W (hf:Fr No W2 W)=>(h0.ak hf2).handle y hEy (fun i hi hh=>by have:=hEb i hi;have:=h0.lt i hh;omega) hoy oy oy hf;have hR:=fun W2 (y:Ms) Am cm Ey (hf2:Fr No W0 W2) (hEy:Ent W2 Ey (.slice Am y.es.length cm) y.es) (hEb:∀i,Ey i→W0.heap.size≤i) (hoy:∀x∈y.es,x.e.ok) (hly:y.es.length≤8) A c w1 W (h1:Hf1 W2 H p q r n (r.handle y) (n+700000) A c w1) (hf:Fr No w1 W)=>h1.handle hEy (fun i hi hh=>by have:=hEb i hi;have:=h0.lt i hh;omega) hoy oy oy hf;have hTu:∀y,Turns (wh % 10=4) r (r.handle y).1:=fun y=> .inr ⟨by omega,Kept.handle hok _⟩;have hl0:=h0.lt;have t0:(wh % 10 == 0)=false:=by simp;omega
 have t1:(wh % 10 == 1)=false:=by simp;omega
 have t2:(wh % 10 == 2)=false:=by simp;omega
 have t3:(wh % 10 == 3)=false:=by simp;omega
 have t4:(wh % 10 == 4)=false:=by simp;omega
 have t5:(wh % 10 == 5)=false:=by simp;omega
 clear h h0 hE hE0 hm;obtain ⟨HM,HBX,HW0,HG,HF0,HLE,HP,HR,HTU,HQ,HL0⟩:=xU hM hbx hW0 hg hf0 hle hP hR hTu hq hl0;clear hM hbx hW0 hg hf0 hle hP hR hTu hq hl0
 go_in
 go_upto_region 1 with fail
 rw [←HG.out,←HW0.out]
 go_wp2_with fail
 refine (HM.out _).mono ?_;rintro e w' ⟨rfl,rfl⟩
 go_wp2_with fail
 refine (HQ.out _ (Fr.refl _ _)).mono ?_;rintro e w3 ⟨y,Ay,cy,Ey,rfl,e3,n3,o3,l3,f3⟩;have hP2:=fun W2 (hf2:Fr No w3 W2)=>HP.out W2 y Ay cy Ey (f3.ah hf2) (e3.ak hf2) n3 o3 l3;have hR2:=fun W2 (hf2:Fr No w3 W2)=>HR.out W2 y Ay cy Ey (f3.ah hf2) (e3.ak hf2) n3 o3 l3;obtain ⟨HTU,F3⟩:=aO (HTU.out y) f3;generalize r.handle y=X at*;obtain ⟨kd,mf,mto,mt,ix,pv,cm,ok2,es2⟩:=y;simp only at hP2 hR2;clear HP HR;obtain ⟨W2,hW2⟩:∃W2,W2=w3.alloc (.cells (cZ kd mf mto mt ix pv cm ok2 (.slice Ay es2.length cy)) TMs):=⟨_,rfl⟩;obtain ⟨g2,hg2⟩:∃g2,g2=w3.heap.size:=⟨_,rfl⟩;have hf2:Fr No w3 W2:=by rw [hW2];exact aj _ _
 have hb2:Blk W2 g2 TMs (cZ kd mf mto mt ix pv cm ok2 (.slice Ay es2.length cy)):=by rw [hW2,hg2];exact Blk.new _ _ _
 have alz:∀V,Fr H W2 V→V.cell? ⟨g2,0,none⟩=some (.int .i64 kd)∧V.cell? ⟨g2,1,none⟩=some (.int .i64 mf)∧V.cell? ⟨g2,2,none⟩=some (.int .i64 mto)∧V.cell? ⟨g2,3,none⟩=some (.int .i64 mt)∧V.cell? ⟨g2,4,none⟩=some (.int .i64 ix)∧V.cell? ⟨g2,5,none⟩=some (.int .i64 pv)∧V.cell? ⟨g2,6,none⟩=some (.int .i64 cm)∧V.cell? ⟨g2,7,none⟩=some (.bool ok2)∧V.cell? ⟨g2,8,none⟩=some (.slice Ay es2.length cy):=fun V hV=>let k:=hb2.fr hV (fun hh=>by have:=HL0.out g2 hh;have:=f3.size;omega);⟨k.cell 0,k.cell 1,k.cell 2,k.cell 3,k.cell 4,k.cell 5,k.cell 6,k.cell 7,k.cell 8⟩;obtain ⟨HP,HR,HF0⟩:=bP (hP2 W2 hf2) (hR2 W2 hf2) ((HF0.out.ah f3).ah hf2);clear HBX;have HBX:=O alz;clear hP2 hR2 f3 e3 n3 o3 l3 hf2 hb2 alz;obtain ⟨HW2,HG2⟩:=aO hW2 hg2;clear hW2 hg2
 go_upto_region 3 with fail
 rw [←HG2.out,←HW2.out]
 go_region_held3 (fun V=>V.cell? ⟨g2,0,none⟩=some (.int .i64 kd)∧V.cell? ⟨g2,1,none⟩=some (.int .i64 mf)∧V.cell? ⟨g2,2,none⟩=some (.int .i64 mto)∧V.cell? ⟨g2,3,none⟩=some (.int .i64 mt)∧V.cell? ⟨g2,4,none⟩=some (.int .i64 ix)∧V.cell? ⟨g2,5,none⟩=some (.int .i64 pv)∧V.cell? ⟨g2,6,none⟩=some (.int .i64 cm)∧V.cell? ⟨g2,7,none⟩=some (.bool ok2)∧V.cell? ⟨g2,8,none⟩=some (.slice Ay es2.length cy)) (first|exact K7.out|exact K6.out|exact K5.out|(refine HBX.out _ (Fr.mono (F:=No) ?_ fun _ h=>h.elim);(repeat (with_reducible first|assumption|exact Fr.refl _ _|refine Fr.alloc ?_ _|refine Fr.drew ?_|refine Fr.drewN ?_ _));done)) (first
  |(go_at_call 49;refine (HP.out _ (by (repeat (with_reducible first|assumption|exact Fr.refl _ _|refine Fr.alloc ?_ _|refine Fr.drew ?_|refine Fr.drewN ?_ _));done)).mono ?_;rintro e w5 ⟨A5,d5,rfl,q5⟩;have K5:=O (HBX.out _ q5.frH);have Q5:=O q5;clear q5)
  |(go_at_call 50;refine (HR.out _ _ _ _ Q5.out (by (repeat (with_reducible first|assumption|exact Fr.refl _ _|refine Fr.alloc ?_ _|refine Fr.drew ?_|refine Fr.drewN ?_ _));done)).mono ?_;rintro e w6 ⟨B6,d6,rfl,q6⟩;have K6:=O (HBX.out _ q6.frH);have Q6:=O q6;clear q6)
  |(go_at_call 40;refine Q6.out.same.mono ?_;rintro e w7 ⟨rfl,t7⟩;have K7:=O (HBX.out _ t7.frH);have T7:=O t7;clear t7))
 all_goals
  go_wp2_with fail
  refine T7.out.tT.mono ?_;rintro e w8 ⟨rfl,t8⟩;have T8:=O t8;clear t8 T7
  go_wp2_with fail
  go_ret
  exact ⟨rfl,BTo.of HF0.out T8.out oy HTU.out⟩
theorem ajl {w:World}{H E:Nat→Prop}{p q n:Nat}{r:Rs}(h:PA w H p q r n)(s:St9)(A:Option Addr)(c:Nat)(hs:SAt w H E s A c)(hsz:n+700000≤1000000000000):
  Calls Tryz.prog 16 #[.pointer (some ⟨p,0,none⟩),.pointer (some ⟨q,0,none⟩),s.v (.slice A s.m.es.length c)] w fun e w' =>e= .returned (.bool true)∧BTo w H p q r n (s.wh % 10=4) w' :=by
 have h0:=Int.emod_nonneg s.wh (b:=10) dcd;have h1:=Int.emod_lt_of_pos s.wh (b:=10) dcd
 rcases (show s.wh % 10=0∨s.wh % 10=1∨s.wh % 10=2∨s.wh % 10=3∨s.wh % 10=4∨s.wh % 10=5∨6≤s.wh % 10 by omega) with h|h|h|h|h|h|h
 ·exact ajk ‹_› s A c hs hsz h
 ·exact ajj ‹_› s A c hs hsz h
 ·exact aji ‹_› s A c hs hsz h
 ·exact ajh ‹_› s A c hs hsz h
 ·exact ajg ‹_› s A c hs hsz h
 ·exact ajf ‹_› s A c hs hsz h
 ·exact aje ‹_› s A c hs hsz h
section
def rV (w:World)(p q:Nat)(r:Rs)(n:Nat)(p' q' :Nat)(r' :Rs)(m:Nat)(W:World):Prop:=∃H K,PA W H p q r n∧PA W K p' q' r' m∧(∀i,H i→¬K i)∧(∀i,H i→w.heap.size≤i)∧(∀i,K i→w.heap.size≤i)∧Fr No w W
section
variable {w W W' W1 W2:World}{p q n p' q' m:Nat}{r r' :Rs}
theorem rV.fr (h:rV w p q r n p' q' r' m W):Fr No w W:=let ⟨_,_,_,_,_,_,_,h⟩:=h;h
theorem rV.swap (h:rV w p q r n p' q' r' m W):rV w p' q' r' m p q r n W:=by
 obtain ⟨H,K,h1,h2,h3,h4,h5,h6⟩:=h;exact ⟨K,H,h2,h1,fun i hk hh=>h3 i hh hk,h5,h4,h6⟩
theorem rV.ak (h:rV w p q r n p' q' r' m W)(hf:Fr No W W'):rV w p q r n p' q' r' m W' :=by
 obtain ⟨H,K,h1,h2,h3,h4,h5,h6⟩:=h;exact ⟨H,K,h1.ak hf,h2.ak hf,h3,h4,h5,h6.ah hf⟩
theorem rV.same (h:rV w p q r n p' q' r' m W):Calls Tryz.prog 20 #[.pointer (some ⟨p,0,none⟩),.pointer (some ⟨q,0,none⟩)] W fun e w' =>e= .returned (.bool true)∧rV w p q r n p' q' r' m w' :=by
 have hh:=h;obtain ⟨H,K,⟨F,G,a1,a2,-⟩,-⟩:=h;exact (pU a1 a2).mono fun e w' ⟨he,hf⟩=>⟨he,hh.ak hf⟩
theorem rV.start {F G:Nat→Prop}(h:PIn w p q r n W)(f1:Fr No W W1)(h1:RAt W1 F p' r n)(n1:∀b,F b→W.heap.size≤b)(f2:Fr No W1 W2)(h2:bR W2 G q' r n)(n2:∀b,G b→W1.heap.size≤b):rV w p q r n p' q' r n W2:=by
 obtain ⟨H,a1,a2,a3⟩:=h;have s1:=f1.size;have s2:=f2.size;have s0:=a3.size;have hlt:=a1.lt;refine ⟨H,fun b=>F b∨G b,a1.ak (f1.ah f2),⟨F,G,h1.ak f2,h2,fun b hF hG=> ?_,fun b hb=> .inl hb,fun b hb=> .inr hb,fun b hb=> ?_⟩,fun b hb hh=> ?_,a2,fun b hb=> ?_,a3.ah (f1.ah f2)⟩
 ·have:=h1.lt b hF;have:=n2 b hG;omega
 ·rcases hb with hb|hb
  ·exact nll (h1.lt b hb) f2.size
  ·exact h2.lt b hb
 ·have:=hlt b hb
  rcases hh with hh|hh
  ·have:=n1 b hh;omega
  ·have:=n2 b hh;omega
 ·rcases hb with hb|hb
  ·have:=n1 b hb;omega
  ·have:=n2 b hb;omega
theorem rV.both (h:rV w p q r n p' q' r' m W){s:St9}{A:Option Addr}{c:Nat}(hs:SIn w s A c)(hl:s.m.es.length≤8)(hsz:n+700000≤1000000000000):
  Calls Tryz.prog 16 #[.pointer (some ⟨p,0,none⟩),.pointer (some ⟨q,0,none⟩),s.v (.slice A s.m.es.length c)] W fun e w' =>e= .returned (.bool true)∧∃r1,rV w p q r1 (n+700000) p' q' r' m w' :=by
 obtain ⟨H,K,h1,h2,h3,h4,h5,h6⟩:=h;refine (ajl h1 s A c (hs.at_ h6 h4 hl) hsz).mono ?_;rintro e w' ⟨rfl,r1,-,hp⟩;have hlt:=h2.lt;have s0:=h6.size;obtain ⟨H',g1,g2,g3⟩:=hp;refine ⟨rfl,r1,H',K,g1,h2.fr g3 (fun i hi hh=>h3 i hh hi),fun i hi hk=> ?_,fun i hi=> ?_,h5,h6.aA g3 h4⟩
 ·rcases g2 i hi with hh|hh
  ·exact h3 i hh hk
  ·have:=hlt i hk;omega
 ·rcases g2 i hi with hh|hh
  ·exact h4 i hh
  ·omega
theorem PIn.both (h:PIn w p q r n W){s:St9}{A:Option Addr}{c:Nat}(hs:SIn w s A c)(hl:s.m.es.length≤8)(hsz:n+700000≤1000000000000):
  Calls Tryz.prog 16 #[.pointer (some ⟨p,0,none⟩),.pointer (some ⟨q,0,none⟩),s.v (.slice A s.m.es.length c)] W fun e w' =>e= .returned (.bool true)∧∃r1,PIn w p q r1 (n+700000) w' :=by
 obtain ⟨H,h1,h4,h6⟩:=h;refine (ajl h1 s A c (hs.at_ h6 h4 hl) hsz).mono ?_;rintro e w' ⟨rfl,hb⟩;obtain ⟨r1,-,hp⟩:=PIn.next h4 h6 hb;exact ⟨rfl,r1,hp⟩
end
end
end Go.Proofs.YtjnfmfmglehmbaaGreat
