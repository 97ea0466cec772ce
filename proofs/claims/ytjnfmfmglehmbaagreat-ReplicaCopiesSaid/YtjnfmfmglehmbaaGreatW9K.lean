/-
  The walk of ReplicaCopies.
-/
import Derived.Test.YtjnfmfmglehmbaaGreatQ60
namespace Go.Proofs.YtjnfmfmglehmbaaGreat
open Go.ChangeShapes Go.WideShapes Go.ChangeAt Go.RowKit
set_option linter.unusedVariables false
set_option maxRecDepth 100000
set_option maxHeartbeats 4000000
set_option maxHeartbeats 8000000 in
theorem ReplicaCopies_walk (a0:Int)(v1:Value)(v2:Value)(w:World)(w0:(Lit.int .i64 a0).wf=true)(w1:In_st9 w v1)(w2:In_st9 w v2):
  Calls Tryz.prog 4 #[.int .i64 a0,v1,v2] w fun e w' =>e= .returned (.bool true)∧Below w.heap.size w w' :=by
 obtain ⟨A,len,cap,l,rfl,hst,hlc,hM⟩:=w1;unfold maxLen at hM;obtain ⟨Ab,wO,at0,lb,rfl,an1,aro,hMb⟩:=w2;unfold maxLen at hMb;have hmod:=fun W=>dO a0 2 W dcd dcd;have hb:=Int.emod_nonneg a0 (show (2:Int)≠0 by decide);have hb2:=Int.emod_lt_of_pos a0 (show (0:Int)<2 by decide);have hN:∃N:Nat,2*(a0 % 2)+1=N∧1≤N∧N≤5∧N % 2=1:=⟨(2*(a0 % 2)+1).toNat,by omega,by omega,by omega,by omega⟩;obtain ⟨N,hN,h3,h5,hodd⟩:=hN;have hnew:=fun W=>ac3 0 N W oy h5 hodd;have nQ:=fun W=>ab3 0 N W oy h5 hodd;have haw:=fun W=>tK W;have lK:=fun W (hf:Fr No w W)=>uJ hst hlc hf;have als:=fun W (hf:Fr No w W)=>uJ an1 aro hf;generalize a0 % 2=x at*;clear w0
 change ∀(W:World),Calls Tryz.prog 8 #[.int .i64 0,.int .i64 (N:Int)] W _ at hnew
 change ∀(W:World),Calls Tryz.prog 9 #[.int .i64 0,.int .i64 (N:Int)] W _ at nQ
 obtain ⟨ao3,nG,uO,HAW,HST,amw,aqv,amv,HN,ajv⟩:=lH hmod hnew nQ haw hst lK an1 als hN hodd;clear hmod hnew nQ haw hst lK an1 als hN hodd
 go_in
 go_wp2_with fail
 refine (ao3.out _).mono ?_;rintro e w2 ⟨rfl,rfl⟩
 go_wp2_with fail
 rw [HN.out];refine (nG.out _).mono ?_;rintro e w2 ⟨p,F,rfl,a2,n2,f2⟩;obtain ⟨A2,N2,F2⟩:=bP a2 n2 f2;clear a2 n2 f2
 go_wp2_with fail
 refine (uO.out _).mono ?_;rintro e w3 ⟨q,G,rfl,a3,n3,f3⟩;have P3:=O (PIn.start A2.out N2.out F2.out a3 n3 f3);clear a3 n3 f3 A2 N2 F2
 go_wp2_with fail
 refine (HAW.out _).mono ?_;rintro e w4 ⟨rfl,f4⟩;have P4:=O (P3.out.ak f4);clear P3 f4
 go_wp2_with fail
 refine (amw.out _ P4.out.fr).mono ?_;rintro e w4' ⟨B,rfl,hB,rfl⟩
 cases B
 ·go_wp2_with fail
  refine (HAW.out _).mono ?_;rintro e w5 ⟨rfl,f5⟩;have F5:=O (P4.out.fr.ah f5);clear f5
  go_wp2_with fail
  go_ret
  exact ⟨au rfl,F5.out.jd⟩
 obtain ⟨h40,h8⟩:=hB rfl;have H8:=O h8;clear h8 amw hB
 go_wp2_with fail
 refine (amv.out _ P4.out.fr).mono ?_;rintro e w4' ⟨B,rfl,hB,rfl⟩
 cases B
 ·go_wp2_with fail
  refine (HAW.out _).mono ?_;rintro e w5 ⟨rfl,f5⟩;have F5:=O (P4.out.fr.ah f5);clear f5
  go_wp2_with fail
  go_ret
  exact ⟨au rfl,F5.out.jd⟩
 obtain ⟨aty,h8b⟩:=hB rfl;have H8b:=O h8b;clear h8b amv hB
 go_wp2_with fail
 go_loopw [11] (fun o wr=>∃(m:Nat) (r:Rs),m≤len∧o= .int .i64 m∧PIn w p q r (m*700000) wr) (fun o _=>len-(intOf o).toNat)
 case atStart=>exact ⟨0,_,Nat.zero_le _,rfl,by simpa using P4.out⟩
 case round=>
  clear P4;obtain ⟨m,r,hm,rfl,hp⟩:=hrel
  by_cases hlt:m<len
  case pos=>
   have b2:decide (m<len)=true:=decide_eq_true hlt;have b3:decide ((m:Int)<(len:Int))=true:=dtt;have hlt2:(m:Int)<(len:Int):=by omega
   obtain ⟨b,off,x,rfl,hb,hx,hs,hc⟩:=HST.out.at_ hlt;have hes:=H8.out x (List.mem_of_getElem? hx);obtain ⟨⟨wh,a,b',⟨kd,mf,mto,mt,ix,pv,cm,ok,es⟩⟩,Ax,cx⟩:=x;have hcells:∀W,Fr No w W→W.cell? ⟨b,off+m*12,none⟩=some (.int .i64 wh)∧W.cell? ⟨b,off+m*12+1,none⟩=some (.int .i64 a)∧W.cell? ⟨b,off+m*12+2,none⟩=some (.int .i64 b')∧W.cell? ⟨b,off+m*12+3,none⟩=some (.int .i64 kd)∧W.cell? ⟨b,off+m*12+4,none⟩=some (.int .i64 mf)∧W.cell? ⟨b,off+m*12+5,none⟩=some (.int .i64 mto)∧W.cell? ⟨b,off+m*12+6,none⟩=some (.int .i64 mt)∧W.cell? ⟨b,off+m*12+7,none⟩=some (.int .i64 ix)∧W.cell? ⟨b,off+m*12+8,none⟩=some (.int .i64 pv)∧W.cell? ⟨b,off+m*12+9,none⟩=some (.int .i64 cm)∧W.cell? ⟨b,off+m*12+10,none⟩=some (.bool ok)∧W.cell? ⟨b,off+m*12+11,none⟩=some (.slice Ax es.length cx):=fun W hf=>⟨(hf.cell (p:=⟨b,off+(m*12+0),none⟩) hb fun h=>h).trans (hc 0 _ rfl),by rw [Nat.add_assoc];exact (hf.cell (p:=⟨b,off+(m*12+1),none⟩) hb fun h=>h).trans (hc 1 _ rfl),by rw [Nat.add_assoc];exact (hf.cell (p:=⟨b,off+(m*12+2),none⟩) hb fun h=>h).trans (hc 2 _ rfl),by rw [Nat.add_assoc];exact (hf.cell (p:=⟨b,off+(m*12+3),none⟩) hb fun h=>h).trans (hc 3 _ rfl),by rw [Nat.add_assoc];exact (hf.cell (p:=⟨b,off+(m*12+4),none⟩) hb fun h=>h).trans (hc 4 _ rfl),by rw [Nat.add_assoc];exact (hf.cell (p:=⟨b,off+(m*12+5),none⟩) hb fun h=>h).trans (hc 5 _ rfl),by rw [Nat.add_assoc];exact (hf.cell (p:=⟨b,off+(m*12+6),none⟩) hb fun h=>h).trans (hc 6 _ rfl),by rw [Nat.add_assoc];exact (hf.cell (p:=⟨b,off+(m*12+7),none⟩) hb fun h=>h).trans (hc 7 _ rfl),by rw [Nat.add_assoc];exact (hf.cell (p:=⟨b,off+(m*12+8),none⟩) hb fun h=>h).trans (hc 8 _ rfl),by rw [Nat.add_assoc];exact (hf.cell (p:=⟨b,off+(m*12+9),none⟩) hb fun h=>h).trans (hc 9 _ rfl),by rw [Nat.add_assoc];exact (hf.cell (p:=⟨b,off+(m*12+10),none⟩) hb fun h=>h).trans (hc 10 _ rfl),by rw [Nat.add_assoc];exact (hf.cell (p:=⟨b,off+(m*12+11),none⟩) hb fun h=>h).trans (hc 11 _ rfl)⟩
   simp only at hs hes;clear hx hc hb;obtain ⟨u0,u1,u2,u3,u4,u5,u6,u7,u8,u9,u10,u11⟩:=hcells wr hp.fr;have hbo:=hp.both hs hes oy;unfold St9.v at hbo;simp only at hbo;clear hp hs hcells;have HBO:=O hbo;clear hbo
   go_wp2_with fail
   refine HBO.out.mono ?_;rintro e w6 ⟨rfl,r1,p6⟩;have P6:=O (show PIn w p q r1 ((m+1)*700000) w6 by rw [Nat.succ_mul];exact p6);clear p6 HBO u0 u1 u2 u3 u4 u5 u6 u7 u8 u9 u10 u11
   go_wp2_with fail
   go_roundw
   case rel=>exact ⟨m+1,r1,by omega,by go_num,P6.out⟩
   case measure=>simp [intOf];omega
  have b2:decide (m<len)=false:=decide_eq_false hlt;have b3:decide ((m:Int)<(len:Int))=false:=dff;have hf0:=hp.fr;obtain ⟨H0,⟨F0,G0,ra,rb,-⟩,-⟩:=id hp;have hcp:=ahe ra;have hcr:=fun W (hf:Fr No wr W)=>ah6 (rb.ak hf);clear ra rb;obtain ⟨HP,HCP,HCR⟩:=bP hp hcp hcr;clear hp hcp hcr
  go_wp2_with fail
  refine HCP.out.mono ?_;rintro e w5 ⟨p',F5,rfl,a5,n5,f5⟩;obtain ⟨A5,N5,F5⟩:=bP a5 n5 f5;clear a5 n5 f5
  go_wp2_with fail
  refine (HCR.out _ F5.out).mono ?_;rintro e w6 ⟨q',G6,rfl,a6,n6,f6⟩;have P6:=O (rV.start HP.out F5.out A5.out N5.out f6 a6 n6);clear a6 n6 f6 A5 N5 F5 HP HCP HCR hf0
  go_wp2_with fail
  go_loopw [14] (fun o wr=>∃(j:Nat) (r1 r2:Rs),j≤wO∧o= .int .i64 j∧rV w p q r1 (m*700000) p' q' r2 ((m+j)*700000) wr) (fun o _=>wO-(intOf o).toNat)
  case atStart=>exact ⟨0,_,_,Nat.zero_le _,rfl,by simpa using P6.out⟩
  case round=>
   clear P6 b2 b3;obtain ⟨j,r1,r2,hj,rfl,hp⟩:=hrel
   by_cases hlt:j<wO
   case pos=>
    have b2:decide (j<wO)=true:=decide_eq_true hlt;have b3:decide ((j:Int)<(wO:Int))=true:=dtt;have hlt2:(j:Int)<(wO:Int):=by omega
    obtain ⟨b,off,x,rfl,hb,hx,hs,hc⟩:=aqv.out.at_ hlt;have hes:=H8b.out x (List.mem_of_getElem? hx);obtain ⟨⟨wh,a,b',⟨kd,mf,mto,mt,ix,pv,cm,ok,es⟩⟩,Ax,cx⟩:=x;have hcells:∀W,Fr No w W→W.cell? ⟨b,off+j*12,none⟩=some (.int .i64 wh)∧W.cell? ⟨b,off+j*12+1,none⟩=some (.int .i64 a)∧W.cell? ⟨b,off+j*12+2,none⟩=some (.int .i64 b')∧W.cell? ⟨b,off+j*12+3,none⟩=some (.int .i64 kd)∧W.cell? ⟨b,off+j*12+4,none⟩=some (.int .i64 mf)∧W.cell? ⟨b,off+j*12+5,none⟩=some (.int .i64 mto)∧W.cell? ⟨b,off+j*12+6,none⟩=some (.int .i64 mt)∧W.cell? ⟨b,off+j*12+7,none⟩=some (.int .i64 ix)∧W.cell? ⟨b,off+j*12+8,none⟩=some (.int .i64 pv)∧W.cell? ⟨b,off+j*12+9,none⟩=some (.int .i64 cm)∧W.cell? ⟨b,off+j*12+10,none⟩=some (.bool ok)∧W.cell? ⟨b,off+j*12+11,none⟩=some (.slice Ax es.length cx):=fun W hf=>⟨(hf.cell (p:=⟨b,off+(j*12+0),none⟩) hb fun h=>h).trans (hc 0 _ rfl),by rw [Nat.add_assoc];exact (hf.cell (p:=⟨b,off+(j*12+1),none⟩) hb fun h=>h).trans (hc 1 _ rfl),by rw [Nat.add_assoc];exact (hf.cell (p:=⟨b,off+(j*12+2),none⟩) hb fun h=>h).trans (hc 2 _ rfl),by rw [Nat.add_assoc];exact (hf.cell (p:=⟨b,off+(j*12+3),none⟩) hb fun h=>h).trans (hc 3 _ rfl),by rw [Nat.add_assoc];exact (hf.cell (p:=⟨b,off+(j*12+4),none⟩) hb fun h=>h).trans (hc 4 _ rfl),by rw [Nat.add_assoc];exact (hf.cell (p:=⟨b,off+(j*12+5),none⟩) hb fun h=>h).trans (hc 5 _ rfl),by rw [Nat.add_assoc];exact (hf.cell (p:=⟨b,off+(j*12+6),none⟩) hb fun h=>h).trans (hc 6 _ rfl),by rw [Nat.add_assoc];exact (hf.cell (p:=⟨b,off+(j*12+7),none⟩) hb fun h=>h).trans (hc 7 _ rfl),by rw [Nat.add_assoc];exact (hf.cell (p:=⟨b,off+(j*12+8),none⟩) hb fun h=>h).trans (hc 8 _ rfl),by rw [Nat.add_assoc];exact (hf.cell (p:=⟨b,off+(j*12+9),none⟩) hb fun h=>h).trans (hc 9 _ rfl),by rw [Nat.add_assoc];exact (hf.cell (p:=⟨b,off+(j*12+10),none⟩) hb fun h=>h).trans (hc 10 _ rfl),by rw [Nat.add_assoc];exact (hf.cell (p:=⟨b,off+(j*12+11),none⟩) hb fun h=>h).trans (hc 11 _ rfl)⟩
    simp only at hs hes;clear hx hc hb;obtain ⟨u0,u1,u2,u3,u4,u5,u6,u7,u8,u9,u10,u11⟩:=hcells wr hp.fr;have hbo:=hp.swap.both hs hes oy;unfold St9.v at hbo;simp only at hbo;clear hp hs hcells;have HBO:=O hbo;clear hbo
    go_wp2_with fail
    refine HBO.out.mono ?_;rintro e w6 ⟨rfl,r3,p6⟩;have P6:=O (show rV w p q r1 (m*700000) p' q' r3 ((m+(j+1))*700000) w6 by rw [show (m+(j+1))*700000=(m+j)*700000+700000 by omega];exact p6.swap);clear p6 HBO u0 u1 u2 u3 u4 u5 u6 u7 u8 u9 u10 u11
    go_wp2_with fail
    refine P6.out.same.mono ?_;rintro e w7 ⟨rfl,p7⟩;have P7:=O p7;clear p7 P6
    go_wp2_with fail
    go_roundw
    case rel=>exact ⟨j+1,r1,r3,by omega,by go_num,P7.out⟩
    case measure=>simp [intOf];omega
   have b2:decide (j<wO)=false:=decide_eq_false hlt;have b3:decide ((j:Int)<(wO:Int))=false:=dff;have HP:=O hp;clear hp
   go_wp2_with fail
   go_loopw [15] (fun o wr=>∃(i:Nat) (r1 r2:Rs),i≤wO∧o= .int .i64 i∧rV w p q r1 ((m+i)*700000) p' q' r2 ((m+j)*700000) wr) (fun o _=>wO-(intOf o).toNat)
   case atStart=>exact ⟨0,_,_,Nat.zero_le _,rfl,by simpa using HP.out⟩
   case round=>
    clear HP b2 b3;obtain ⟨i,r1,r2,hi,rfl,hp⟩:=hrel
    by_cases hlt:i<wO
    case pos=>
     have b2:decide (i<wO)=true:=decide_eq_true hlt;have b3:decide ((i:Int)<(wO:Int))=true:=dtt;have hlt2:(i:Int)<(wO:Int):=by omega
     obtain ⟨b,off,x,rfl,hb,hx,hs,hc⟩:=aqv.out.at_ hlt;have hes:=H8b.out x (List.mem_of_getElem? hx);obtain ⟨⟨wh,a,b',⟨kd,mf,mto,mt,ix,pv,cm,ok,es⟩⟩,Ax,cx⟩:=x;have hcells:∀W,Fr No w W→W.cell? ⟨b,off+i*12,none⟩=some (.int .i64 wh)∧W.cell? ⟨b,off+i*12+1,none⟩=some (.int .i64 a)∧W.cell? ⟨b,off+i*12+2,none⟩=some (.int .i64 b')∧W.cell? ⟨b,off+i*12+3,none⟩=some (.int .i64 kd)∧W.cell? ⟨b,off+i*12+4,none⟩=some (.int .i64 mf)∧W.cell? ⟨b,off+i*12+5,none⟩=some (.int .i64 mto)∧W.cell? ⟨b,off+i*12+6,none⟩=some (.int .i64 mt)∧W.cell? ⟨b,off+i*12+7,none⟩=some (.int .i64 ix)∧W.cell? ⟨b,off+i*12+8,none⟩=some (.int .i64 pv)∧W.cell? ⟨b,off+i*12+9,none⟩=some (.int .i64 cm)∧W.cell? ⟨b,off+i*12+10,none⟩=some (.bool ok)∧W.cell? ⟨b,off+i*12+11,none⟩=some (.slice Ax es.length cx):=fun W hf=>⟨(hf.cell (p:=⟨b,off+(i*12+0),none⟩) hb fun h=>h).trans (hc 0 _ rfl),by rw [Nat.add_assoc];exact (hf.cell (p:=⟨b,off+(i*12+1),none⟩) hb fun h=>h).trans (hc 1 _ rfl),by rw [Nat.add_assoc];exact (hf.cell (p:=⟨b,off+(i*12+2),none⟩) hb fun h=>h).trans (hc 2 _ rfl),by rw [Nat.add_assoc];exact (hf.cell (p:=⟨b,off+(i*12+3),none⟩) hb fun h=>h).trans (hc 3 _ rfl),by rw [Nat.add_assoc];exact (hf.cell (p:=⟨b,off+(i*12+4),none⟩) hb fun h=>h).trans (hc 4 _ rfl),by rw [Nat.add_assoc];exact (hf.cell (p:=⟨b,off+(i*12+5),none⟩) hb fun h=>h).trans (hc 5 _ rfl),by rw [Nat.add_assoc];exact (hf.cell (p:=⟨b,off+(i*12+6),none⟩) hb fun h=>h).trans (hc 6 _ rfl),by rw [Nat.add_assoc];exact (hf.cell (p:=⟨b,off+(i*12+7),none⟩) hb fun h=>h).trans (hc 7 _ rfl),by rw [Nat.add_assoc];exact (hf.cell (p:=⟨b,off+(i*12+8),none⟩) hb fun h=>h).trans (hc 8 _ rfl),by rw [Nat.add_assoc];exact (hf.cell (p:=⟨b,off+(i*12+9),none⟩) hb fun h=>h).trans (hc 9 _ rfl),by rw [Nat.add_assoc];exact (hf.cell (p:=⟨b,off+(i*12+10),none⟩) hb fun h=>h).trans (hc 10 _ rfl),by rw [Nat.add_assoc];exact (hf.cell (p:=⟨b,off+(i*12+11),none⟩) hb fun h=>h).trans (hc 11 _ rfl)⟩
     simp only at hs hes;clear hx hc hb;obtain ⟨u0,u1,u2,u3,u4,u5,u6,u7,u8,u9,u10,u11⟩:=hcells wr hp.fr;have hbo:=hp.both hs hes oy;unfold St9.v at hbo;simp only at hbo;clear hp hs hcells;have HBO:=O hbo;clear hbo
     go_wp2_with fail
     refine HBO.out.mono ?_;rintro e w6 ⟨rfl,r3,p6⟩;have P6:=O (show rV w p q r3 ((m+(i+1))*700000) p' q' r2 ((m+j)*700000) w6 by rw [show (m+(i+1))*700000=(m+i)*700000+700000 by omega];exact p6);clear p6 HBO u0 u1 u2 u3 u4 u5 u6 u7 u8 u9 u10 u11
     go_wp2_with fail
     go_roundw
     case rel=>exact ⟨i+1,r3,r2,by omega,by go_num,P6.out⟩
     case measure=>simp [intOf];omega
    have b2:decide (i<wO)=false:=decide_eq_false hlt;have b3:decide ((i:Int)<(wO:Int))=false:=dff;have hsm:=hp.swap.same;have HSM:=O hsm;clear hsm
    go_wp2_with fail
    refine HSM.out.mono ?_;rintro e w7 ⟨rfl,p7⟩;have P7:=O p7;clear p7 HSM
    go_wp2_with fail
    go_ret
    exact ⟨au rfl,P7.out.fr.jd⟩
end Go.Proofs.YtjnfmfmglehmbaaGreat
