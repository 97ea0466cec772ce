/-
  The walk of QuorumCopies.
-/
import Derived.Test.YtjnfmfmglehmbaaGreatQ52
import Derived.Test.YtjnfmfmglehmbaaGreatQ34
import Derived.Test.YtjnfmfmglehmbaaGreatQ51
namespace Go.Proofs.YtjnfmfmglehmbaaGreat
open Go.ChangeShapes Go.WideShapes Go.ChangeAt Go.RowKit
set_option linter.unusedVariables false
set_option maxRecDepth 100000
set_option maxHeartbeats 4000000
set_option maxHeartbeats 16000000 in
theorem QuorumCopies_walk (a0:Int)(v1 v2:Value)(w:World)(w0:(Lit.int .i64 a0).wf=true)(w1:In_steps w v1)(w2:In_steps w v2):
  Calls Tryz.prog 6 #[.int .i64 a0,v1,v2] w fun e w' =>e= .returned (.bool true)∧Below w.heap.size w w' :=by
 obtain ⟨A,len,cap,acts,rfl,ad3,hlc,hM⟩:=w1;obtain ⟨B,len2,cap2,more,rfl,hmore,atg,hM2⟩:=w2;unfold maxLen at hM hM2;obtain ⟨N,hN0,hN5,hN1,hodd⟩:=ac7 a0 w;have hnew:=fun W=>aik N W hN5 hN1;have nQ:=fun W=>ab7 N W hN5 hN1;have hf0:Fr No w w:=Fr.refl _ _;obtain ⟨ae1,aa5,ajv,nG,uO,HF0⟩:=lG ad3 hmore hodd hnew nQ hf0;clear ad3 hmore hodd hnew nQ hf0
 go_in
 go_wp2_with fail
 refine ajv.out.mono ?_;rintro e w1 ⟨rfl,rfl⟩
 go_wp2_with fail
 refine (nG.out _).mono ?_;rintro e w2 ⟨z,lab,pv,rfl,q2,n2,f2⟩;obtain ⟨Q2,N2,F2⟩:=bP q2 n2 f2;clear q2 n2 f2
 go_wp2_with fail
 refine (uO.out _).mono ?_;rintro e w3 ⟨zr,dG,pv2,rfl,q3,n3,f3⟩;have Q3:=O (PQ.start Q2.out N2.out F2.out (Fr.refl No w2) q3 n3 f3);clear q3 n3 f3 Q2 N2 F2 ajv nG uO
 go_wp2_with fail
 refine (iO _).mono ?_;rintro e w4 ⟨rfl,f4⟩;have Q4:=O (Q3.out.ak f4);clear f4 Q3
 by_cases h40:len≤30
 case neg=>
  have b1:decide ((30:Int)<(len:Int))=true:=dtt;have b1n:decide (30<len)=true:=dtt
  go_wp2_with fail
  refine (iO _).mono ?_;rintro e w5 ⟨rfl,f5⟩
  go_wp2_with fail
  go_ret
  exact ⟨au rfl,(Q4.out.fr.ah f5).jd⟩
 have b1:decide ((30:Int)<(len:Int))=false:=dff;have b1n:decide (30<len)=false:=dff
 by_cases h41:len2≤30
 case neg=>
  have d1:decide ((30:Int)<(len2:Int))=true:=dtt;have d1n:decide (30<len2)=true:=dtt
  go_wp2_with fail
  refine (iO _).mono ?_;rintro e w5 ⟨rfl,f5⟩
  go_wp2_with fail
  go_ret
  exact ⟨au rfl,(Q4.out.fr.ah f5).jd⟩
 have d1:decide ((30:Int)<(len2:Int))=false:=dff;have d1n:decide (30<len2)=false:=dff
 go_wp2_with fail
 go_loopw [11] (fun o wr=>∃(m:Nat) (q:Qs) (g9:Nat),m≤len∧o= .int .i64 m∧q.n=N∧PQ w g9 z zr q (m*700000) q (m*700000) wr) (fun o _=>len-(intOf o).toNat)
 case atStart=>exact ⟨0,_,_,Nat.zero_le _,rfl,rfl,by simpa using Q4.out⟩
 case round=>
  clear Q4;obtain ⟨m,q,g9,hm,rfl,hqn,hq⟩:=hrel
  by_cases hlt:m<len
  case neg=>
   have b2:decide (m<len)=false:=decide_eq_false hlt;have b3:decide ((m:Int)<(len:Int))=false:=dff;have ark:m*700000≤30000000:=by omega
   have hms:=aa5.out.steps;have hmc:=aa5.out.count;have hfq:=hq.fr;have aqf:Calls Tryz.prog 29 #[.pointer (some ⟨z,0,none⟩)] wr fun e w' =>∃z',e= .returned (.pointer (some ⟨z',0,none⟩))∧Calls Tryz.prog 30 #[.pointer (some ⟨z',0,none⟩),.slice B len2 cap2,.int .i64 (N:Int)] w' fun e2 w2=>e2= .returned (.tuple #[])∧Fr No wr w2:=by
    obtain ⟨lab,pv,dG,pv2,h1,h2,-⟩:=hq;refine (akz h1).mono ?_;rintro e w' ⟨z',lab',pv',rfl,c1,c2,c3⟩;refine ⟨z',rfl,?_⟩;have hpl:=afy (w0:=w) (A:=B) (c:=cap2) (l:=more) c1 (fun b j hb=>Nat.le_trans hfq.size (c2 b j hb)) (hfq.ah c3) hms (by rw [hmc];exact Nat.le_trans (Nat.add_le_add ark (Nat.mul_le_mul_right 4000700000 h41)) dcd);rw [hmc,hqn] at hpl;refine hpl.mono ?_;rintro e2 w2 ⟨rfl,q',-,hto⟩;exact ⟨rfl,(hto.ak c3 c2).1⟩
   obtain ⟨HQ,as4⟩:=aO hq aqf;clear hq aqf
   go_wp2_with fail
   refine as4.out.mono ?_;rintro e w5 ⟨z',rfl,hpl⟩;have HPL:=O hpl;clear hpl
   go_wp2_with fail
   refine HPL.out.mono ?_;rintro e w6 ⟨rfl,f6⟩;have hsm:=(HQ.out.ak f6).same;have HSM:=O hsm;clear hsm;clear f6
   go_wp2_with fail
   refine HSM.out.mono ?_;rintro e w7 ⟨rfl,p7⟩;have P7:=O p7;clear p7
   go_wp2_with fail
   go_ret
   exact ⟨au rfl,P7.out.fr.jd⟩
  have b2:decide (m<len)=true:=decide_eq_true hlt;have b3:decide ((m:Int)<(len:Int))=true:=dtt;have hm2:(m:Int)<(len:Int):=by omega
  obtain ⟨b,off,a,rfl,ha,hok,hcells⟩:=ae1.out.steps.each m (by rw [ae1.out.count];exact hlt);obtain ⟨An,cn,hn1,hn2,hzl,hn3,agb⟩:=hq.net;have hfw:=hq.fr;have hS:∀V,Fr No wr V→V.cell? ⟨b,off+m*3,none⟩=some (.int .i64 a.which)∧V.cell? ⟨b,off+m*3+1,none⟩=some (.int .i64 a.a)∧V.cell? ⟨b,off+m*3+2,none⟩=some (.int .i64 a.b)∧V.cell? ⟨zr,1,none⟩=some (.slice An q.net.length cn):=fun V hV=>let ⟨x0,x1,x2⟩:=hcells V (HF0.out.ah (hfw.ah hV));⟨x0,x1,x2,agb V hV⟩;have hact:=fun W=>yA a.which a.a a.b N q.net.length hN0 hN5 hn3 W;have an0:eX q a=q.act (dB a.which) (a.a % (N:Int)) (iI a.which a.b q.net.length) (bE (a.b % 1000)):=by unfold eX;rw [hqn]
  have hne:=xP a.b;generalize q.net.length=L at*;obtain ⟨K,hK⟩:∃K,K=dB a.which:=⟨_,rfl⟩;obtain ⟨WO,hWO⟩:∃WO,WO=a.a % (N:Int):=⟨_,rfl⟩;obtain ⟨NU,hNU⟩:∃NU,NU=iI a.which a.b L:=⟨_,rfl⟩;obtain ⟨EE,hEE⟩:∃EE,EE=bE (a.b % 1000):=⟨_,rfl⟩;rw [←hK,←hWO,←hNU,←hEE] at hact;rw [←hEE] at hne;unfold maxLen at hn2;obtain ⟨ek,ti,te,ce,ot,ep,fr,un,nn⟩:=EE;unfold gZ at hact;unfold afe at hact;simp only at hact;obtain ⟨x0,x1,x2,x3⟩:=hS wr (Fr.refl _ _);clear hK hWO hNU hEE an0 hok ha hcells agb;obtain ⟨HQ,HS,ahx,HNE,HFW,HQN⟩:=lG hq hS hact hne hfw hqn;clear hq hS hact hne hfw hqn
  go_upto_region 9 with fail
  go_cut [12] (fun x wx=>rU wr K WO NU ⟨ek,ti,te,ce,ot,ep,fr,un,nn⟩ x wx)
  case first=>
   have hz1:=Nat.le_refl wr.heap.size;have hz0:wr.heap.size≤(wr.alloc (.cells ajn fE)).heap.size:=by simp
   have arb:wr.heap.size<(wr.alloc (.cells ajn fE)).heap.size:=by simp
   go_region_held3 (fun V=>V.cell? ⟨b,off+m*3,none⟩=some (.int .i64 a.which)∧V.cell? ⟨b,off+m*3+1,none⟩=some (.int .i64 a.a)∧V.cell? ⟨b,off+m*3+2,none⟩=some (.int .i64 a.b)∧V.cell? ⟨zr,1,none⟩=some (.slice An L cn)) (exact HS.out _ (by repeat (with_reducible first|assumption|exact Fr.refl _ _|refine Fr.alloc ?_ _|refine Fr.drew ?_|refine Fr.drewN ?_ _|refine Fr.setCell ?_ (.inr (by assumption)) _))) (first|(go_at_call 25;refine (ahx.out _).mono ?_;rintro e w7 ⟨rfl,f7⟩;have Q7:Fr No wr w7:=Fr.ah frz f7;have Q8:=O f7;have hz2:=Q7.size;(try (have b7:=Blk.fr (Blk.dA (Blk.new wr fE ajn)) f7 id;have y0:=b7.cell 0;have z0:=b7.frozen 0;have y1:=b7.cell 1;have z1:=b7.frozen 1;have y2:=b7.cell 2;have z2:=b7.frozen 2;have y3:=b7.cell 3;have z3:=b7.frozen 3;have y4:=b7.cell 4;have z4:=b7.frozen 4;have y5:=b7.cell 5;have z5:=b7.frozen 5;have y6:=b7.cell 6;have z6:=b7.frozen 6;have y7:=b7.cell 7;have z7:=b7.frozen 7;have y8:=b7.cell 8;have z8:=b7.frozen 8;have y9:=b7.cell 9;have z9:=b7.frozen 9;have y10:=b7.cell 10;have z10:=b7.frozen 10;have y11:=b7.cell 11;have z11:=b7.frozen 11;have B7:=O b7;clear b7));clear f7))
   all_goals
    (try go_wp2_with fail)
    go_meet
    first
    |with_reducible exact rU.mkA K WO NU ⟨ek,ti,te,ce,ot,ep,fr,un,nn⟩ Q7
    |with_reducible exact rU.mkF K WO NU ⟨ek,ti,te,ce,ot,ep,fr,un,nn⟩ B7.out Q7 (Nat.le_refl _)
  obtain ⟨g7,rfl,h7,b7,f7⟩:=hcut;obtain ⟨P7,B7,F7⟩:=bP ((HQ.out.fresh h7).ak f7) b7 (HFW.out.ah f7);generalize wc=w7 at*;have HG7:=O (Nat.le_trans (HFW.out).size h7);clear x0 x1 x2 x3 HS ahx HQ f7 h7 HFW hn1 hn2 hzl;obtain ⟨k0,k1,k2,k3,k4,k5,k6,k7,k8,k9,k10,k11⟩:=aM b7;simp only at k3 k4 k5 k6 k7 k8 k9 k10 k11;have hl7:=b7.lt;clear b7;have hdo:=fun W (hf:Fr No w7 W)=>(P7.out.ak hf).do_ K WO NU ⟨ek,ti,te,ce,ot,ep,fr,un,nn⟩ HNE.out oy (B7.out.fr hf fun h=>h);have hac:∀V,Blk V g7 fE (eU K WO NU ⟨ek,ti,te,ce,ot,ep,fr,un,nn⟩).toArray→V.cell? ⟨g7,0,none⟩=some (.int .i64 K)∧V.cell? ⟨g7,1,none⟩=some (.int .i64 WO)∧V.cell? ⟨g7,2,none⟩=some (.int .i64 NU)∧V.cell? ⟨g7,3,none⟩=some (.int .i64 ek)∧V.cell? ⟨g7,4,none⟩=some (.int .i64 ti)∧V.cell? ⟨g7,5,none⟩=some (.int .i64 te)∧V.cell? ⟨g7,6,none⟩=some (.int .i64 ce)∧V.cell? ⟨g7,7,none⟩=some (.int .i64 ot)∧V.cell? ⟨g7,8,none⟩=some (.int .i64 ep)∧V.cell? ⟨g7,9,none⟩=some (.int .i64 fr)∧V.cell? ⟨g7,10,none⟩=some (.int .i64 un)∧V.cell? ⟨g7,11,none⟩=some (.int .i64 nn):=fun V hb=>aM hb;have hnx:=agy q K WO NU ⟨ek,ti,te,ce,ot,ep,fr,un,nn⟩;have zm:=fun W Q1 n1 (p:PQ w g7 z zr Q1 n1 q (m*700000) W) (hb:Blk W g7 fE (eU K WO NU ⟨ek,ti,te,ce,ot,ep,fr,un,nn⟩).toArray)=>p.rdo K WO NU ⟨ek,ti,te,ce,ot,ep,fr,un,nn⟩ HNE.out oy hb;unfold gZ at hdo zm;simp only at hdo zm;generalize q.jh K WO NU ⟨ek,ti,te,ce,ot,ep,fr,un,nn⟩=XX at*;generalize q.act K WO NU ⟨ek,ti,te,ce,ot,ep,fr,un,nn⟩=q' at*;have ahl :q'.n=N:=hnx.trans HQN.out
  obtain ⟨HDO,HAC,ajt⟩:=bP hdo hac zm;have amr :=O ahl;clear hdo hac zm ahl;clear hnx
  go_wp2_with fail
  refine (HDO.out _ (Fr.refl _ _)).mono ?_;rintro e v1 ⟨rfl,p1,c1⟩;clear k0 k1 k2 k3 k4 k5 k6 k7 k8 k9 k10 k11;obtain ⟨k0,k1,k2,k3,k4,k5,k6,k7,k8,k9,k10,k11⟩:=HAC.out _ c1;have hl8:=c1.lt;have hrd:=ajt.out _ _ _ p1 c1;have HRD:=O hrd;clear hrd;clear p1 c1
  go_wp2_with fail
  refine HRD.out.mono ?_;rintro e v2 ⟨rfl,p2,-⟩;have P2:=O p2;clear p2 k0 k1 k2 k3 k4 k5 k6 k7 k8 k9 k10 k11
  go_wp2_with fail
  go_roundw
  case rel=>exact ⟨m+1,q',g7,by omega,by go_num,amr.out,by rw [Nat.succ_mul];exact P2.out⟩
  case measure=>simp [intOf];omega
end Go.Proofs.YtjnfmfmglehmbaaGreat
