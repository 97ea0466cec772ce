/-
  The walk of ReplicaVotes.
-/
import Derived.Test.YtjnfmfmglehmbaaGreatQ60
namespace Go.Proofs.YtjnfmfmglehmbaaGreat
open Go.ChangeShapes Go.WideShapes Go.ChangeAt Go.RowKit
set_option linter.unusedVariables false
set_option maxRecDepth 100000
set_option maxHeartbeats 4000000
set_option maxHeartbeats 8000000 in
theorem ReplicaVotes_walk (a0:Int)(v1:Value)(w:World)(w0:(Lit.int .i64 a0).wf=true)(w1:In_st9 w v1):
  Calls Tryz.prog 3 #[.int .i64 a0,v1] w fun e w' =>e= .returned (.bool true)∧Below w.heap.size w w' :=by
 obtain ⟨A,len,cap,l,rfl,hst,hlc,hM⟩:=w1;unfold maxLen at hM;have hmod:=fun W=>dO a0 2 W dcd dcd;have hb:=Int.emod_nonneg a0 (show (2:Int)≠0 by decide);have hb2:=Int.emod_lt_of_pos a0 (show (0:Int)<2 by decide);have hN:∃N:Nat,2*(a0 % 2)+3=N∧1≤N∧N≤5∧N % 2=1:=⟨(2*(a0 % 2)+3).toNat,by omega,by omega,by omega,by omega⟩;obtain ⟨N,hN,h3,h5,hodd⟩:=hN;have hnew:=fun W=>ac3 0 N W oy h5 hodd;have nQ:=fun W=>ab3 0 N W oy h5 hodd;have haw:=fun W=>tK W;have lK:=fun W (hf:Fr No w W)=>uJ hst hlc hf;generalize a0 % 2=x at*;clear w0
 change ∀(W:World),Calls Tryz.prog 8 #[.int .i64 0,.int .i64 (N:Int)] W _ at hnew
 change ∀(W:World),Calls Tryz.prog 9 #[.int .i64 0,.int .i64 (N:Int)] W _ at nQ
 obtain ⟨ao3,nG,uO,HAW,HST,amw,HN,ajv⟩:=ae6 hmod hnew nQ haw hst lK hN hodd;clear hmod hnew nQ haw hst lK hN hodd
 go_in
 go_wp2_with fail
 refine (ao3.out _).mono ?_;rintro e w2 ⟨rfl,rfl⟩
 go_wp2_with fail
 rw [HN.out];refine (nG.out _).mono ?_;rintro e w2 ⟨p,F,rfl,a2,n2,f2⟩;obtain ⟨A2,N2,F2⟩:=bP a2 n2 f2;clear a2 n2 f2
 go_wp2_with fail
 refine (uO.out _).mono ?_;rintro e w3 ⟨q,G,rfl,a3,n3,f3⟩;have P3:=O (PIn.start A2.out N2.out F2.out a3 n3 f3);clear a3 n3 f3 A2 N2 F2
 go_wp2_with fail
 refine (HAW.out _).mono ?_;rintro e w4 ⟨rfl,f4⟩;have P4:=O (P3.out.ak f4);clear P3 f4
 go_wp2_with fail
 refine (amw.out _ P4.out.fr).mono ?_;rintro e w4' ⟨B,rfl,hB,rfl⟩
 cases B
 ·go_wp2_with fail
  refine (HAW.out _).mono ?_;rintro e w5 ⟨rfl,f5⟩;have F5:=O (P4.out.fr.ah f5);clear f5
  go_wp2_with fail
  go_ret
  exact ⟨au rfl,F5.out.jd⟩
 obtain ⟨h40,h8⟩:=hB rfl;have H8:=O h8;clear h8 amw hB
 go_wp2_with fail
 go_loopw [9] (fun o wr=>∃(m:Nat) (r:Rs),m≤len∧o= .int .i64 m∧PIn w p q r (m*700000) wr) (fun o _=>len-(intOf o).toNat)
 case atStart=>exact ⟨0,_,Nat.zero_le _,rfl,by simpa using P4.out⟩
 case round=>
  clear P4;obtain ⟨m,r,hm,rfl,hp⟩:=hrel
  by_cases hlt:m<len
  case neg=>
   have b2:decide (m<len)=false:=decide_eq_false hlt;have b3:decide ((m:Int)<(len:Int))=false:=dff;have HP:=O hp;clear hp
   go_wp2_with fail
   go_ret
   exact ⟨rfl,HP.out.fr.jd⟩
  have b2:decide (m<len)=true:=decide_eq_true hlt;have b3:decide ((m:Int)<(len:Int))=true:=dtt;have hlt2:(m:Int)<(len:Int):=by omega
  obtain ⟨b,off,x,rfl,hb,hx,hs,hc⟩:=HST.out.at_ hlt;have hes:=H8.out x (List.mem_of_getElem? hx);obtain ⟨⟨wh,a,b',⟨kd,mf,mto,mt,ix,pv,cm,ok,es⟩⟩,Ax,cx⟩:=x;have hcells:∀W,Fr No w W→W.cell? ⟨b,off+m*12,none⟩=some (.int .i64 wh)∧W.cell? ⟨b,off+m*12+1,none⟩=some (.int .i64 a)∧W.cell? ⟨b,off+m*12+2,none⟩=some (.int .i64 b')∧W.cell? ⟨b,off+m*12+3,none⟩=some (.int .i64 kd)∧W.cell? ⟨b,off+m*12+4,none⟩=some (.int .i64 mf)∧W.cell? ⟨b,off+m*12+5,none⟩=some (.int .i64 mto)∧W.cell? ⟨b,off+m*12+6,none⟩=some (.int .i64 mt)∧W.cell? ⟨b,off+m*12+7,none⟩=some (.int .i64 ix)∧W.cell? ⟨b,off+m*12+8,none⟩=some (.int .i64 pv)∧W.cell? ⟨b,off+m*12+9,none⟩=some (.int .i64 cm)∧W.cell? ⟨b,off+m*12+10,none⟩=some (.bool ok)∧W.cell? ⟨b,off+m*12+11,none⟩=some (.slice Ax es.length cx):=fun W hf=>⟨(hf.cell (p:=⟨b,off+(m*12+0),none⟩) hb fun h=>h).trans (hc 0 _ rfl),by rw [Nat.add_assoc];exact (hf.cell (p:=⟨b,off+(m*12+1),none⟩) hb fun h=>h).trans (hc 1 _ rfl),by rw [Nat.add_assoc];exact (hf.cell (p:=⟨b,off+(m*12+2),none⟩) hb fun h=>h).trans (hc 2 _ rfl),by rw [Nat.add_assoc];exact (hf.cell (p:=⟨b,off+(m*12+3),none⟩) hb fun h=>h).trans (hc 3 _ rfl),by rw [Nat.add_assoc];exact (hf.cell (p:=⟨b,off+(m*12+4),none⟩) hb fun h=>h).trans (hc 4 _ rfl),by rw [Nat.add_assoc];exact (hf.cell (p:=⟨b,off+(m*12+5),none⟩) hb fun h=>h).trans (hc 5 _ rfl),by rw [Nat.add_assoc];exact (hf.cell (p:=⟨b,off+(m*12+6),none⟩) hb fun h=>h).trans (hc 6 _ rfl),by rw [Nat.add_assoc];exact (hf.cell (p:=⟨b,off+(m*12+7),none⟩) hb fun h=>h).trans (hc 7 _ rfl),by rw [Nat.add_assoc];exact (hf.cell (p:=⟨b,off+(m*12+8),none⟩) hb fun h=>h).trans (hc 8 _ rfl),by rw [Nat.add_assoc];exact (hf.cell (p:=⟨b,off+(m*12+9),none⟩) hb fun h=>h).trans (hc 9 _ rfl),by rw [Nat.add_assoc];exact (hf.cell (p:=⟨b,off+(m*12+10),none⟩) hb fun h=>h).trans (hc 10 _ rfl),by rw [Nat.add_assoc];exact (hf.cell (p:=⟨b,off+(m*12+11),none⟩) hb fun h=>h).trans (hc 11 _ rfl)⟩
  simp only at hs hes;clear hx hc hb;obtain ⟨H,hpa,hn,hf⟩:=hp;have hok:=hpa.ok;have hkl:=hok.log.few;have hcl:=hok.com;obtain ⟨F0,G0,ra,-⟩:=id hpa;have hT:=fun W (hf:Fr No wr W)=>iq (ra.ak hf).rj;have hV:=fun W (hf:Fr No wr W)=>yS (ra.ak hf).rj;have hC:=fun W (hf:Fr No wr W)=>kM (ra.ak hf);have hL:=fun W (hf:Fr No wr W)=>ac4 (ra.ak hf).rj hkl;have hBo:=fun W (hf:Fr No wr W) (hw:Fr No w W)=>ajl (hpa.ak hf) _ Ax cx (hs.at_ (H:=H) hw hn hes) oy;have ap5:=fun C r' (ht:Turns C r r')=>ht.laws hok;have aln:=hpa.lt;clear ra hpa hs hok;unfold St9.v at hBo;simp only at hBo;have hmd:=fun W=>dO wh 10 W dcd dcd;obtain ⟨F1,HT,HV,HC,HL,HBO,aqz,oN,HN,HMD,ao5⟩:=xU hf hT hV hC hL hBo ap5 hcells hn hmd aln;clear hT hV hC hL hBo ap5 hcells hn hmd aln;obtain ⟨u0,u1,u2,u3,u4,u5,u6,u7,u8,u9,u10,u11⟩:=oN.out wr hf;clear hf
  go_wp2_with fail
  refine (HT.out _ (Fr.refl _ _)).mono ?_;rintro e w' ⟨rfl,rfl⟩
  go_wp2_with fail
  refine (HV.out _ (Fr.refl _ _)).mono ?_;rintro e w' ⟨rfl,rfl⟩
  go_wp2_with fail
  refine (HC.out _ (Fr.refl _ _)).mono ?_;rintro e w' ⟨rfl,rfl⟩
  go_wp2_with fail
  refine (HL.out _ (Fr.refl _ _)).mono ?_;rintro e w5 ⟨A5,d5,rfl,o5,f5⟩;clear HT HV HC HL;obtain ⟨F5,O5⟩:=aO (F1.out.ah f5) (Ent.iW o5);have hbo:=HBO.out w5 f5 F5.out;have hc5:=o5.cap;have SZ:=O f5.size;clear u0 u1 u2 u3 u4 u5 u6 u7 u8 u9 u10 u11 o5 f5 HBO;obtain ⟨u0,u1,u2,u3,u4,u5,u6,u7,u8,u9,u10,u11⟩:=oN.out w5 F5.out;have HBO:=O hbo;clear hbo
  go_wp2_with fail
  refine (HMD.out _).mono ?_;rintro e w' ⟨rfl,rfl⟩
  go_wp2_with fail
  refine HBO.out.mono ?_;rintro e w6 ⟨rfl,r',ht,hp6⟩;obtain ⟨l1,l2,l3,l4,l5,l6⟩:=aqz.out _ _ ht;have o6:=O5.out.fr hp6.frH fun i hi hh=>by have:=ao5.out i hh;have hi:wr.heap.size≤i:=hi;omega
  obtain ⟨H6,an3,hn6,hf6⟩:=hp6.own F5.out HN.out;have an4:=an3.ok;have ap6:=an4.log.few;have ar1:=an4.com;have hP6:PIn w p q r' ((m+1)*700000) w6:=⟨H6,an3.more oy,hn6,hf6⟩;obtain ⟨F7,G7,ra,-⟩:=an3;have hT:=fun W (hf:Fr No w6 W)=>iq (ra.ak hf).rj;have hV:=fun W (hf:Fr No w6 W)=>yS (ra.ak hf).rj;have hC:=fun W (hf:Fr No w6 W)=>kM (ra.ak hf);have hL:=fun W (hf:Fr No w6 W)=>ac4 (ra.ak hf).rj ap6;clear ra hp6 hn6 hf6 an4 ht HBO aqz F5 F1 O5 oN HN ao5 SZ u0 u1 u2 u3 u4 u5 u6 u7 u8 u9 u10 u11;have t1:decide (r'.js.term<r.js.term)=false:=dff;have alo:r'.js.log.take r.commit=r.js.log.take r.commit:=l3;have hln:r.commit≤r'.js.log.length:=by
   have:=congrArg List.length l3;rw [List.length_take,List.length_take] at this
   omega
  have t2:decide (r.js.log.length<r.commit)=false:=dff;have t2i:decide ((r.js.log.length:Int)<(r.commit:Int))=false:=dff;have t3:decide (r'.js.log.length<r.commit)=false:=dff;have t3i:decide ((r'.js.log.length:Int)<(r.commit:Int))=false:=dff;have heq:r'.js.log=r.js.log∨wh % 10≠4:=by
   by_cases h4:wh % 10=4
   ·exact .inl (l4 h4)
   ·exact .inr h4
  have hcm:r.commit≤r'.commit∨wh % 10=4:=by
   by_cases h4:wh % 10=4
   ·exact .inr h4
   ·exact .inl (l5 h4)
  have hvo:r'.js.term=r.js.term→r.js.cu≠-1→r'.js.cu=r.js.cu:=l2;clear l1 l2 l3 l4 l5 l6;generalize r'.js.log=L2 at*;generalize r.js.log=L1 at*;generalize r'.js.term=T2 at*;generalize r.js.term=T1 at*;generalize r'.js.cu=V2 at*;generalize r.js.cu=V1 at*;generalize r'.commit=C2 at*;generalize r.commit=C1 at*;obtain ⟨HT,HV,HC,HL,HP6,O6,amu,HEQ,HCM,HVO⟩:=lH hT hV hC hL hP6 o6 alo heq hcm hvo;clear hT hV hC hL hP6 o6 alo heq hcm hvo
  go_upto_region 12 with fail
  go_cut [11,97] (fun _ x wx=>x= .bool false∧wx=w6)
  case first=>
   go_wp2_with fail
   refine (HT.out _ (Fr.refl _ _)).mono ?_;rintro e w' ⟨rfl,rfl⟩
   go_wp2_with fail
   refine (HT.out _ (Fr.refl _ _)).mono ?_;rintro e w' ⟨rfl,rfl⟩
   by_cases hte:T2=T1
   ·by_cases hv:V1= -1
    ·have t6:(V1 == -1)=true:=by simpa using hv
     subst hte
     go_wp2_with fail
     go_meet
     exact ⟨rfl,rfl⟩
    ·have t6:(V1 == -1)=false:=by simpa using hv
     have hvv:V2=V1:=HVO.out hte hv;subst hte hvv
     go_wp2_with fail
     refine (HV.out _ (Fr.refl _ _)).mono ?_;rintro e w' ⟨rfl,rfl⟩
     go_wp2_with fail
     go_meet
     exact ⟨rfl,rfl⟩
   ·have t5:(T2 == T1)=false:=by simpa using hte
    go_wp2_with fail
    go_meet
    exact ⟨rfl,rfl⟩
  obtain ⟨rfl,hwc⟩:=hcut;subst hwc
  go_wp2_with fail
  refine (HL.out _ (Fr.refl _ _)).mono ?_;rintro e w7 ⟨A7,d7,rfl,o7,f7⟩;have hc7:=o7.cap;have e7:=Ent.iW o7;have e5:=O6.out.ak f7;have lt1:(L1.take C1).length=C1:=by rw [List.length_take];omega
  have lt2:(L2.take C1).length=C1:=by rw [List.length_take];omega
  have hS1:∀W,Fr No w7 W→Calls Tryz.prog 17 #[.slice A7 C1 d7,.slice A5 C1 d5] W fun e w' =>e= .returned (.bool true)∧Fr No W w' :=fun W hf=>by
   have hz:=iJ ((e7.aki hln).ak hf) ((e5.aki (by omega:C1≤L1.length)).ak hf);rw [lt2,lt1,decide_eq_true amu.out] at hz;exact hz
  have hS2:L2=L1→∀W,Fr No w7 W→Calls Tryz.prog 17 #[.slice A7 L2.length d7,.slice A5 L1.length d5] W fun e w' =>e= .returned (.bool true)∧Fr No W w' :=fun he W hf=>by
   have hz:=iJ (e7.ak hf) (e5.ak hf);rw [decide_eq_true he] at hz;exact hz
  have hC7:=fun W (hf:Fr No w7 W)=>HC.out W (f7.ah hf);have hP7:=fun W (hf:Fr No w7 W)=>HP6.out.ak (f7.ah hf);have atw:(C1:Int)≤(d7:Int):=by omega
  have atv:(C1:Int)≤(d5:Int):=by omega
  have atu:C1≤d7:=by omega
  have att:C1≤d5:=by omega
  clear o7 f7 e7 e5 lt1 lt2 hcl ar1 hkl ap6 HT HV HC HL HP6 O6 HVO amu;obtain ⟨HS1,HC7,HP7⟩:=bP hS1 hC7 hP7;clear hS1 hC7 hP7
  by_cases h4:wh % 10=4
  ·have t4:(wh % 10 == 4)=true:=by simpa using h4
   have heq:L2=L1:=HEQ.out.elim id fun h=>absurd h4 h;have HS2:=O (hS2 heq);subst heq;clear hS2 HCM HEQ h4
   go_upto_region 15 with fail
   try rw [t4]
   refine wp_region_held_drew (S:=fun _=>True) (by kernel_rfl) (trivial) (fun hHeld=> ?_);refine wpAnyH_take (i:=0) (v:= ?_) rfl (by kernel_rfl) (by kernel_rfl) (by kernel_rfl) (fun _ _ _ h=>h) (Or.inl ⟨by rfl,?_⟩) (by assumption) ?_
   rotate_left
   ·(intro w hSw;(try dsimp only at hSw);go_simp)<;>with_reducible rfl
   simp only [Act.put,List.setIfInBounds_toArray,List.set_cons_zero,List.set_cons_succ,List.getElem_toArray,List.getElem_cons_zero];refine wpAnyH_take (i:=1) (v:= ?_) rfl (by kernel_rfl) (by kernel_rfl) (by kernel_rfl) (fun _ _ _ h=>h) (Or.inl ⟨by rfl,?_⟩) (by assumption) ?_
   rotate_left
   ·(intro w hSw;(try dsimp only at hSw);go_simp)<;>with_reducible rfl
   simp only [Act.put,J];refine wpAnyH_take (i:=2) (v:= ?_) rfl (by kernel_rfl) (by kernel_rfl) (by kernel_rfl) (fun _ _ _ h=>h) (Or.inl ⟨by rfl,?_⟩) (by assumption) ?_
   rotate_left
   ·(intro w hSw;(try dsimp only at hSw);go_simp)<;>with_reducible rfl
   simp only [Act.put,J];refine wpAnyH_take (i:=3) (v:= ?_) rfl (by kernel_rfl) (by kernel_rfl) (by kernel_rfl) (fun _ _ _ h=>h) (Or.inl ⟨by rfl,?_⟩) (by assumption) ?_
   rotate_left
   ·(intro w hSw;(try dsimp only at hSw);go_simp)<;>with_reducible rfl
   simp only [Act.put,J];refine wpAnyH_take (i:=4) (v:= ?_) rfl (by kernel_rfl) (by kernel_rfl) (by kernel_rfl) (fun _ _ _ h=>h) (Or.inl ⟨by rfl,?_⟩) (by assumption) ?_
   rotate_left
   ·(intro w hSw;(try dsimp only at hSw);go_simp)<;>with_reducible rfl
   simp only [Act.put,J];refine wpAnyH_take (i:=5) (v:= ?_) rfl (by kernel_rfl) (by kernel_rfl) (by kernel_rfl) (fun _ _ _ h=>h) (Or.inl ⟨by rfl,?_⟩) (by assumption) ?_
   rotate_left
   ·(intro w hSw;(try dsimp only at hSw);go_simp)<;>with_reducible rfl
   simp only [Act.put,J];refine wpAnyH_take (i:=6) (v:= ?_) rfl (by kernel_rfl) (by kernel_rfl) (by kernel_rfl) (fun _ _ _ h=>h) (Or.inl ⟨by rfl,?_⟩) (by assumption) ?_
   rotate_left
   ·(intro w hSw;(try dsimp only at hSw);go_simp)<;>with_reducible rfl
   simp only [Act.put,J];refine wpAnyH_take (i:=7) (v:= ?_) rfl (by kernel_rfl) (by kernel_rfl) (by kernel_rfl) (fun _ _ _ h=>h) (Or.inl ⟨by rfl,?_⟩) (by assumption) ?_
   rotate_left
   ·(intro w hSw;(try dsimp only at hSw);go_simp)<;>with_reducible rfl
   simp only [Act.put,J];refine wpAnyH_take (i:=8) (v:= ?_) rfl (by kernel_rfl) (by kernel_rfl) (by kernel_rfl) (fun _ _ _ h=>h) (Or.inl ⟨by rfl,?_⟩) (by assumption) ?_
   rotate_left
   ·(intro w hSw;(try dsimp only at hSw);go_simp)<;>with_reducible rfl
   simp only [Act.put,J];refine wpAnyH_take (i:=9) (v:= ?_) rfl (by kernel_rfl) (by kernel_rfl) (by kernel_rfl) (fun _ _ _ h=>h) (Or.inl ⟨by rfl,?_⟩) (by assumption) ?_
   rotate_left
   ·(intro w hSw;(try dsimp only at hSw);go_simp)<;>with_reducible rfl
   simp only [Act.put,J];refine wpAnyH_take (i:=10) (v:= ?_) rfl (by kernel_rfl) (by kernel_rfl) (by kernel_rfl) (fun _ _ _ h=>h) (Or.inl ⟨by rfl,?_⟩) (by assumption) ?_
   rotate_left
   ·(intro w hSw;(try dsimp only at hSw);go_simp)<;>with_reducible rfl
   simp only [Act.put,J];refine wpAnyH_take (i:=11) (v:= ?_) rfl (by kernel_rfl) (by kernel_rfl) (by kernel_rfl) (fun _ _ _ h=>h) (Or.inl ⟨by rfl,?_⟩) (by assumption) ?_
   rotate_left
   ·(intro w hSw;(try dsimp only at hSw);go_simp)<;>with_reducible rfl
   simp only [Act.put,J];refine wpAnyH_take (i:=12) (v:= ?_) rfl (by kernel_rfl) (by kernel_rfl) (by kernel_rfl) (fun _ _ _ h=>h) (Or.inl ⟨by rfl,?_⟩) (by assumption) ?_
   rotate_left
   ·(intro w hSw;(try dsimp only at hSw);go_simp)<;>with_reducible rfl
   simp only [Act.put,J];refine wpAnyH_take (i:=13) (v:= ?_) rfl (by kernel_rfl) (by kernel_rfl) (by kernel_rfl) (fun _ _ _ h=>h) (Or.inl ⟨by rfl,?_⟩) (by assumption) ?_
   rotate_left
   ·(intro w hSw;(try dsimp only at hSw);go_simp)<;>with_reducible rfl
   simp only [Act.put,J];refine wpAnyH_take (i:=14) (v:= ?_) rfl (by kernel_rfl) (by kernel_rfl) (by kernel_rfl) (fun _ _ _ h=>h) (Or.inl ⟨by rfl,?_⟩) (by assumption) ?_
   rotate_left
   ·(intro w hSw;(try dsimp only at hSw);go_simp)<;>with_reducible rfl
   simp only [Act.put,J];refine wpAnyH_take (i:=15) (v:= ?_) rfl (by kernel_rfl) (by kernel_rfl) (by kernel_rfl) (fun _ _ _ h=>h) (Or.inl ⟨by rfl,?_⟩) (by assumption) ?_
   rotate_left
   ·(intro w hSw;(try dsimp only at hSw);go_simp)<;>with_reducible rfl
   simp only [Act.put,J];refine wpAnyH_take (i:=16) (v:= ?_) rfl (by kernel_rfl) (by kernel_rfl) (by kernel_rfl) (fun _ _ _ h=>h) (Or.inl ⟨by rfl,?_⟩) (by assumption) ?_
   rotate_left
   ·(intro w hSw;(try dsimp only at hSw);go_simp)<;>with_reducible rfl
   simp only [Act.put,J];refine wpAnyH_ready (rs:=[17]) (by kernel_rfl) (by simp) (AllReadyH.cons rfl (fun K hK=> ?_) AllReadyH.nil)
   go_simp
   refine (HS1.out _ (by (repeat (with_reducible first|assumption|exact Fr.refl _ _|refine Fr.alloc ?_ _|refine Fr.drew ?_|refine Fr.drewN ?_ _));done)).mono ?_;rintro e w8 ⟨rfl,f8⟩;have F8:Fr No w7 w8:=Fr.ah (by (repeat (with_reducible first|assumption|exact Fr.refl _ _|refine Fr.alloc ?_ _|refine Fr.drew ?_|refine Fr.drewN ?_ _));done) f8;clear f8
   go_wp2_with fail
   clear hHeld;refine hK.out _ _ (trivial) (fun hHeld=> ?_);clear hK K
   try simp only [Act.put,J]
   refine wpAnyH_take (i:=18) (v:= ?_) rfl (by kernel_rfl) (by kernel_rfl) (by kernel_rfl) (fun _ _ _ h=>h) (Or.inl ⟨by rfl,?_⟩) (by assumption) ?_
   rotate_left
   ·(intro w hSw;(try dsimp only at hSw);go_simp)<;>with_reducible rfl
   simp only [Act.put,J];refine wpAnyH_take (i:=19) (v:= ?_) rfl (by kernel_rfl) (by kernel_rfl) (by kernel_rfl) (fun _ _ _ h=>h) (Or.inl ⟨by rfl,?_⟩) (by assumption) ?_
   rotate_left
   ·(intro w hSw;(try dsimp only at hSw);go_simp)<;>with_reducible rfl
   simp only [Act.put,J];refine wpAnyH_take (i:=20) (v:= ?_) rfl (by kernel_rfl) (by kernel_rfl) (by kernel_rfl) (fun _ _ _ h=>h) (Or.inl ⟨by rfl,?_⟩) (by assumption) ?_
   rotate_left
   ·(intro w hSw;(try dsimp only at hSw);go_simp)<;>with_reducible rfl
   simp only [Act.put,J];refine wpAnyH_take (i:=21) (v:= ?_) rfl (by kernel_rfl) (by kernel_rfl) (by kernel_rfl) (fun _ _ _ h=>h) (Or.inl ⟨by rfl,?_⟩) (by assumption) ?_
   rotate_left
   ·(intro w hSw;(try dsimp only at hSw);go_simp)<;>with_reducible rfl
   simp only [Act.put,J];refine wpAnyH_take (i:=22) (v:= ?_) rfl (by kernel_rfl) (by kernel_rfl) (by kernel_rfl) (fun _ _ _ h=>h) (Or.inl ⟨by rfl,?_⟩) (by assumption) ?_
   rotate_left
   ·(intro w hSw;(try dsimp only at hSw);go_simp)<;>with_reducible rfl
   simp only [Act.put,J];refine wpAnyH_take (i:=23) (v:= ?_) rfl (by kernel_rfl) (by kernel_rfl) (by kernel_rfl) (fun _ _ _ h=>h) (Or.inl ⟨by rfl,?_⟩) (by assumption) ?_
   rotate_left
   ·(intro w hSw;(try dsimp only at hSw);go_simp)<;>with_reducible rfl
   simp only [Act.put,J];refine wpAnyH_take (i:=24) (v:= ?_) rfl (by kernel_rfl) (by kernel_rfl) (by kernel_rfl) (fun _ _ _ h=>h) (Or.inl ⟨by rfl,?_⟩) (by assumption) ?_
   rotate_left
   ·(intro w hSw;(try dsimp only at hSw);go_simp)<;>with_reducible rfl
   simp only [Act.put,J];refine wpAnyH_ready (rs:=[25]) (by kernel_rfl) (by simp) (AllReadyH.cons rfl (fun K hK=> ?_) AllReadyH.nil)
   go_simp
   refine (HS2.out _ (by (repeat (with_reducible first|assumption|exact Fr.refl _ _|refine Fr.alloc ?_ _|refine Fr.drew ?_|refine Fr.drewN ?_ _));done)).mono ?_;rintro e w9 ⟨rfl,f9⟩;have F9:Fr No w7 w9:=Fr.ah (by (repeat (with_reducible first|assumption|exact Fr.refl _ _|refine Fr.alloc ?_ _|refine Fr.drew ?_|refine Fr.drewN ?_ _));done) f9;clear f9
   go_wp2_with fail
   clear hHeld;refine hK.out _ _ (trivial) (fun hHeld=> ?_);clear hK K
   try simp only [Act.put,J]
   refine wpAnyH_take (i:=26) (v:= ?_) rfl (by kernel_rfl) (by kernel_rfl) (by kernel_rfl) (fun _ _ _ h=>h) (Or.inl ⟨by rfl,?_⟩) (by assumption) ?_
   rotate_left
   ·(intro w hSw;(try dsimp only at hSw);go_simp)<;>with_reducible rfl
   simp only [Act.put,J];refine wpAnyH_take (i:=27) (v:= ?_) rfl (by kernel_rfl) (by kernel_rfl) (by kernel_rfl) (fun _ _ _ h=>h) (Or.inl ⟨by rfl,?_⟩) (by assumption) ?_
   rotate_left
   ·(intro w hSw;(try dsimp only at hSw);go_simp)<;>with_reducible rfl
   simp only [Act.put,J];refine wpAnyH_take (i:=28) (v:= ?_) rfl (by kernel_rfl) (by kernel_rfl) (by kernel_rfl) (fun _ _ _ h=>h) (Or.inl ⟨by rfl,?_⟩) (by assumption) ?_
   rotate_left
   ·(intro w hSw;(try dsimp only at hSw);go_simp)<;>with_reducible rfl
   simp only [Act.put,J];refine wpAnyH_take (i:=29) (v:= ?_) rfl (by kernel_rfl) (by kernel_rfl) (by kernel_rfl) (fun _ _ _ h=>h) (Or.inl ⟨by rfl,?_⟩) (by assumption) ?_
   rotate_left
   ·(intro w hSw;(try dsimp only at hSw);go_simp)<;>with_reducible rfl
   simp only [Act.put,J];refine wpAnyH_take (i:=30) (v:= ?_) rfl (by kernel_rfl) (by kernel_rfl) (by kernel_rfl) (fun _ _ _ h=>h) (Or.inl ⟨by rfl,?_⟩) (by assumption) ?_
   rotate_left
   ·(intro w hSw;(try dsimp only at hSw);go_simp)<;>with_reducible rfl
   simp only [Act.put,J];refine wpAnyH_take (i:=31) (v:= ?_) rfl (by kernel_rfl) (by kernel_rfl) (by kernel_rfl) (fun _ _ _ h=>h) (Or.inl ⟨by rfl,?_⟩) (by assumption) ?_
   rotate_left
   ·(intro w hSw;(try dsimp only at hSw);go_simp)<;>with_reducible rfl
   simp only [Act.put,J];refine wpAnyH_take (i:=32) (v:= ?_) rfl (by kernel_rfl) (by kernel_rfl) (by kernel_rfl) (fun _ _ _ h=>h) (Or.inl ⟨by rfl,?_⟩) (by assumption) ?_
   rotate_left
   ·(intro w hSw;(try dsimp only at hSw);go_simp)<;>with_reducible rfl
   simp only [Act.put,J];refine wpAnyH_take (i:=33) (v:=undef) rfl (by kernel_rfl) (by kernel_rfl) (by kernel_rfl) (fun _ _ _ h=>h) (Or.inr ⟨by rfl,rfl⟩) (by assumption) ?_;simp only [Act.put,J];refine wpAnyH_take (i:=34) (v:=undef) rfl (by kernel_rfl) (by kernel_rfl) (by kernel_rfl) (fun _ _ _ h=>h) (Or.inr ⟨by rfl,rfl⟩) (by assumption) ?_;simp only [Act.put,J];refine wpAnyH_take (i:=35) (v:=undef) rfl (by kernel_rfl) (by kernel_rfl) (by kernel_rfl) (fun _ _ _ h=>h) (Or.inr ⟨by rfl,rfl⟩) (by assumption) ?_;simp only [Act.put,J];refine wpAnyH_take (i:=36) (v:=undef) rfl (by kernel_rfl) (by kernel_rfl) (by kernel_rfl) (fun _ _ _ h=>h) (Or.inr ⟨by rfl,rfl⟩) (by assumption) ?_;simp only [Act.put,J];refine wpAnyH_take (i:=37) (v:= ?_) rfl (by kernel_rfl) (by kernel_rfl) (by kernel_rfl) (fun _ _ _ h=>h) (Or.inl ⟨by rfl,?_⟩) (by assumption) ?_
   rotate_left
   ·(intro w hSw;(try dsimp only at hSw);go_simp)<;>with_reducible rfl
   simp only [Act.put,J];refine wpAnyH_take (i:=38) (v:= ?_) rfl (by kernel_rfl) (by kernel_rfl) (by kernel_rfl) (fun _ _ _ h=>h) (Or.inl ⟨by rfl,?_⟩) (by assumption) ?_
   rotate_left
   ·(intro w hSw;(try dsimp only at hSw);go_simp)<;>with_reducible rfl
   simp only [Act.put,J];refine wpAnyH_done (by kernel_rfl) ?_ _
   go_wp2_with fail
   go_roundw
   case rel=>exact ⟨m+1,r',by omega,by go_num,HP7.out _ (by (repeat (with_reducible first|assumption|exact Fr.refl _ _|refine Fr.alloc ?_ _|refine Fr.drew ?_|refine Fr.drewN ?_ _));done)⟩
   case measure=>simp [intOf];omega
  ·have t4:(wh % 10 == 4)=false:=by simpa using h4
   have hcm2:C1≤C2:=HCM.out.elim id fun h=>absurd h h4;have t8:decide (C2<C1)=false:=dff;have t9:decide ((C2:Int)<(C1:Int))=false:=dff;clear hS2 HCM HEQ h4
   go_upto_region 15 with fail
   try rw [t4]
   refine wp_region_held_drew (S:=fun _=>True) (by kernel_rfl) (trivial) (fun hHeld=> ?_);refine wpAnyH_take (i:=0) (v:= ?_) rfl (by kernel_rfl) (by kernel_rfl) (by kernel_rfl) (fun _ _ _ h=>h) (Or.inl ⟨by rfl,?_⟩) (by assumption) ?_
   rotate_left
   ·(intro w hSw;(try dsimp only at hSw);go_simp)<;>with_reducible rfl
   simp only [Act.put,List.setIfInBounds_toArray,List.set_cons_zero,List.set_cons_succ,List.getElem_toArray,List.getElem_cons_zero];refine wpAnyH_take (i:=1) (v:= ?_) rfl (by kernel_rfl) (by kernel_rfl) (by kernel_rfl) (fun _ _ _ h=>h) (Or.inl ⟨by rfl,?_⟩) (by assumption) ?_
   rotate_left
   ·(intro w hSw;(try dsimp only at hSw);go_simp)<;>with_reducible rfl
   simp only [Act.put,J];refine wpAnyH_take (i:=2) (v:= ?_) rfl (by kernel_rfl) (by kernel_rfl) (by kernel_rfl) (fun _ _ _ h=>h) (Or.inl ⟨by rfl,?_⟩) (by assumption) ?_
   rotate_left
   ·(intro w hSw;(try dsimp only at hSw);go_simp)<;>with_reducible rfl
   simp only [Act.put,J];refine wpAnyH_take (i:=3) (v:= ?_) rfl (by kernel_rfl) (by kernel_rfl) (by kernel_rfl) (fun _ _ _ h=>h) (Or.inl ⟨by rfl,?_⟩) (by assumption) ?_
   rotate_left
   ·(intro w hSw;(try dsimp only at hSw);go_simp)<;>with_reducible rfl
   simp only [Act.put,J];refine wpAnyH_take (i:=4) (v:= ?_) rfl (by kernel_rfl) (by kernel_rfl) (by kernel_rfl) (fun _ _ _ h=>h) (Or.inl ⟨by rfl,?_⟩) (by assumption) ?_
   rotate_left
   ·(intro w hSw;(try dsimp only at hSw);go_simp)<;>with_reducible rfl
   simp only [Act.put,J];refine wpAnyH_take (i:=5) (v:= ?_) rfl (by kernel_rfl) (by kernel_rfl) (by kernel_rfl) (fun _ _ _ h=>h) (Or.inl ⟨by rfl,?_⟩) (by assumption) ?_
   rotate_left
   ·(intro w hSw;(try dsimp only at hSw);go_simp)<;>with_reducible rfl
   simp only [Act.put,J];refine wpAnyH_take (i:=6) (v:= ?_) rfl (by kernel_rfl) (by kernel_rfl) (by kernel_rfl) (fun _ _ _ h=>h) (Or.inl ⟨by rfl,?_⟩) (by assumption) ?_
   rotate_left
   ·(intro w hSw;(try dsimp only at hSw);go_simp)<;>with_reducible rfl
   simp only [Act.put,J];refine wpAnyH_take (i:=7) (v:= ?_) rfl (by kernel_rfl) (by kernel_rfl) (by kernel_rfl) (fun _ _ _ h=>h) (Or.inl ⟨by rfl,?_⟩) (by assumption) ?_
   rotate_left
   ·(intro w hSw;(try dsimp only at hSw);go_simp)<;>with_reducible rfl
   simp only [Act.put,J];refine wpAnyH_take (i:=8) (v:= ?_) rfl (by kernel_rfl) (by kernel_rfl) (by kernel_rfl) (fun _ _ _ h=>h) (Or.inl ⟨by rfl,?_⟩) (by assumption) ?_
   rotate_left
   ·(intro w hSw;(try dsimp only at hSw);go_simp)<;>with_reducible rfl
   simp only [Act.put,J];refine wpAnyH_take (i:=9) (v:= ?_) rfl (by kernel_rfl) (by kernel_rfl) (by kernel_rfl) (fun _ _ _ h=>h) (Or.inl ⟨by rfl,?_⟩) (by assumption) ?_
   rotate_left
   ·(intro w hSw;(try dsimp only at hSw);go_simp)<;>with_reducible rfl
   simp only [Act.put,J];refine wpAnyH_take (i:=10) (v:= ?_) rfl (by kernel_rfl) (by kernel_rfl) (by kernel_rfl) (fun _ _ _ h=>h) (Or.inl ⟨by rfl,?_⟩) (by assumption) ?_
   rotate_left
   ·(intro w hSw;(try dsimp only at hSw);go_simp)<;>with_reducible rfl
   simp only [Act.put,J];refine wpAnyH_take (i:=11) (v:= ?_) rfl (by kernel_rfl) (by kernel_rfl) (by kernel_rfl) (fun _ _ _ h=>h) (Or.inl ⟨by rfl,?_⟩) (by assumption) ?_
   rotate_left
   ·(intro w hSw;(try dsimp only at hSw);go_simp)<;>with_reducible rfl
   simp only [Act.put,J];refine wpAnyH_take (i:=12) (v:= ?_) rfl (by kernel_rfl) (by kernel_rfl) (by kernel_rfl) (fun _ _ _ h=>h) (Or.inl ⟨by rfl,?_⟩) (by assumption) ?_
   rotate_left
   ·(intro w hSw;(try dsimp only at hSw);go_simp)<;>with_reducible rfl
   simp only [Act.put,J];refine wpAnyH_take (i:=13) (v:= ?_) rfl (by kernel_rfl) (by kernel_rfl) (by kernel_rfl) (fun _ _ _ h=>h) (Or.inl ⟨by rfl,?_⟩) (by assumption) ?_
   rotate_left
   ·(intro w hSw;(try dsimp only at hSw);go_simp)<;>with_reducible rfl
   simp only [Act.put,J];refine wpAnyH_take (i:=14) (v:= ?_) rfl (by kernel_rfl) (by kernel_rfl) (by kernel_rfl) (fun _ _ _ h=>h) (Or.inl ⟨by rfl,?_⟩) (by assumption) ?_
   rotate_left
   ·(intro w hSw;(try dsimp only at hSw);go_simp)<;>with_reducible rfl
   simp only [Act.put,J];refine wpAnyH_take (i:=15) (v:= ?_) rfl (by kernel_rfl) (by kernel_rfl) (by kernel_rfl) (fun _ _ _ h=>h) (Or.inl ⟨by rfl,?_⟩) (by assumption) ?_
   rotate_left
   ·(intro w hSw;(try dsimp only at hSw);go_simp)<;>with_reducible rfl
   simp only [Act.put,J];refine wpAnyH_take (i:=16) (v:= ?_) rfl (by kernel_rfl) (by kernel_rfl) (by kernel_rfl) (fun _ _ _ h=>h) (Or.inl ⟨by rfl,?_⟩) (by assumption) ?_
   rotate_left
   ·(intro w hSw;(try dsimp only at hSw);go_simp)<;>with_reducible rfl
   simp only [Act.put,J];refine wpAnyH_ready (rs:=[17]) (by kernel_rfl) (by simp) (AllReadyH.cons rfl (fun K hK=> ?_) AllReadyH.nil)
   go_simp
   refine (HS1.out _ (by (repeat (with_reducible first|assumption|exact Fr.refl _ _|refine Fr.alloc ?_ _|refine Fr.drew ?_|refine Fr.drewN ?_ _));done)).mono ?_;rintro e w8 ⟨rfl,f8⟩;have F8:Fr No w7 w8:=Fr.ah (by (repeat (with_reducible first|assumption|exact Fr.refl _ _|refine Fr.alloc ?_ _|refine Fr.drew ?_|refine Fr.drewN ?_ _));done) f8;clear f8
   go_wp2_with fail
   clear hHeld;refine hK.out _ _ (trivial) (fun hHeld=> ?_);clear hK K
   try simp only [Act.put,J]
   refine wpAnyH_take (i:=18) (v:= ?_) rfl (by kernel_rfl) (by kernel_rfl) (by kernel_rfl) (fun _ _ _ h=>h) (Or.inl ⟨by rfl,?_⟩) (by assumption) ?_
   rotate_left
   ·(intro w hSw;(try dsimp only at hSw);go_simp)<;>with_reducible rfl
   simp only [Act.put,J];refine wpAnyH_take (i:=19) (v:= ?_) rfl (by kernel_rfl) (by kernel_rfl) (by kernel_rfl) (fun _ _ _ h=>h) (Or.inl ⟨by rfl,?_⟩) (by assumption) ?_
   rotate_left
   ·(intro w hSw;(try dsimp only at hSw);go_simp)<;>with_reducible rfl
   simp only [Act.put,J];refine wpAnyH_take (i:=20) (v:= ?_) rfl (by kernel_rfl) (by kernel_rfl) (by kernel_rfl) (fun _ _ _ h=>h) (Or.inl ⟨by rfl,?_⟩) (by assumption) ?_
   rotate_left
   ·(intro w hSw;(try dsimp only at hSw);go_simp)<;>with_reducible rfl
   simp only [Act.put,J];refine wpAnyH_take (i:=21) (v:= ?_) rfl (by kernel_rfl) (by kernel_rfl) (by kernel_rfl) (fun _ _ _ h=>h) (Or.inl ⟨by rfl,?_⟩) (by assumption) ?_
   rotate_left
   ·(intro w hSw;(try dsimp only at hSw);go_simp)<;>with_reducible rfl
   simp only [Act.put,J];refine wpAnyH_take (i:=22) (v:= ?_) rfl (by kernel_rfl) (by kernel_rfl) (by kernel_rfl) (fun _ _ _ h=>h) (Or.inl ⟨by rfl,?_⟩) (by assumption) ?_
   rotate_left
   ·(intro w hSw;(try dsimp only at hSw);go_simp)<;>with_reducible rfl
   simp only [Act.put,J];refine wpAnyH_take (i:=23) (v:=undef) rfl (by kernel_rfl) (by kernel_rfl) (by kernel_rfl) (fun _ _ _ h=>h) (Or.inr ⟨by rfl,rfl⟩) (by assumption) ?_;simp only [Act.put,J];refine wpAnyH_take (i:=24) (v:=undef) rfl (by kernel_rfl) (by kernel_rfl) (by kernel_rfl) (fun _ _ _ h=>h) (Or.inr ⟨by rfl,rfl⟩) (by assumption) ?_;simp only [Act.put,J];refine wpAnyH_take (i:=25) (v:=undef) rfl (by kernel_rfl) (by kernel_rfl) (by kernel_rfl) (fun _ _ _ h=>h) (Or.inr ⟨by rfl,rfl⟩) (by assumption) ?_;simp only [Act.put,J];refine wpAnyH_take (i:=26) (v:=undef) rfl (by kernel_rfl) (by kernel_rfl) (by kernel_rfl) (fun _ _ _ h=>h) (Or.inr ⟨by rfl,rfl⟩) (by assumption) ?_;simp only [Act.put,J];refine wpAnyH_take (i:=27) (v:= ?_) rfl (by kernel_rfl) (by kernel_rfl) (by kernel_rfl) (fun _ _ _ h=>h) (Or.inl ⟨by rfl,?_⟩) (by assumption) ?_
   rotate_left
   ·(intro w hSw;(try dsimp only at hSw);go_simp)<;>with_reducible rfl
   simp only [Act.put,J];refine wpAnyH_take (i:=28) (v:= ?_) rfl (by kernel_rfl) (by kernel_rfl) (by kernel_rfl) (fun _ _ _ h=>h) (Or.inl ⟨by rfl,?_⟩) (by assumption) ?_
   rotate_left
   ·(intro w hSw;(try dsimp only at hSw);go_simp)<;>with_reducible rfl
   simp only [Act.put,J];refine wpAnyH_take (i:=29) (v:= ?_) rfl (by kernel_rfl) (by kernel_rfl) (by kernel_rfl) (fun _ _ _ h=>h) (Or.inl ⟨by rfl,?_⟩) (by assumption) ?_
   rotate_left
   ·(intro w hSw;(try dsimp only at hSw);go_simp)<;>with_reducible rfl
   simp only [Act.put,J];refine wpAnyH_take (i:=30) (v:= ?_) rfl (by kernel_rfl) (by kernel_rfl) (by kernel_rfl) (fun _ _ _ h=>h) (Or.inl ⟨by rfl,?_⟩) (by assumption) ?_
   rotate_left
   ·(intro w hSw;(try dsimp only at hSw);go_simp)<;>with_reducible rfl
   simp only [Act.put,J];refine wpAnyH_take (i:=31) (v:= ?_) rfl (by kernel_rfl) (by kernel_rfl) (by kernel_rfl) (fun _ _ _ h=>h) (Or.inl ⟨by rfl,?_⟩) (by assumption) ?_
   rotate_left
   ·(intro w hSw;(try dsimp only at hSw);go_simp)<;>with_reducible rfl
   simp only [Act.put,J];refine wpAnyH_take (i:=32) (v:= ?_) rfl (by kernel_rfl) (by kernel_rfl) (by kernel_rfl) (fun _ _ _ h=>h) (Or.inl ⟨by rfl,?_⟩) (by assumption) ?_
   rotate_left
   ·(intro w hSw;(try dsimp only at hSw);go_simp)<;>with_reducible rfl
   simp only [Act.put,J];refine wpAnyH_take (i:=33) (v:= ?_) rfl (by kernel_rfl) (by kernel_rfl) (by kernel_rfl) (fun _ _ _ h=>h) (Or.inl ⟨by rfl,?_⟩) (by assumption) ?_
   rotate_left
   ·(intro w hSw;(try dsimp only at hSw);go_simp)<;>with_reducible rfl
   simp only [Act.put,J];refine wpAnyH_take (i:=35) (v:= ?_) rfl (by kernel_rfl) (by kernel_rfl) (by kernel_rfl) (fun _ _ _ h=>h) (Or.inl ⟨by rfl,?_⟩) (by assumption) ?_
   rotate_left
   ·(intro w hSw;(try dsimp only at hSw);go_simp)<;>with_reducible rfl
   simp only [Act.put,J];refine wpAnyH_ready (rs:=[34]) (by kernel_rfl) (by simp) (AllReadyH.cons rfl (fun K hK=> ?_) AllReadyH.nil)
   go_simp
   refine (HC7.out _ (by (repeat (with_reducible first|assumption|exact Fr.refl _ _|refine Fr.alloc ?_ _|refine Fr.drew ?_|refine Fr.drewN ?_ _));done)).mono ?_;rintro e w' ⟨rfl,rfl⟩
   go_wp2_with fail
   clear hHeld;refine hK.out _ _ (trivial) (fun hHeld=> ?_);clear hK K
   try simp only [Act.put,J]
   refine wpAnyH_take (i:=36) (v:= ?_) rfl (by kernel_rfl) (by kernel_rfl) (by kernel_rfl) (fun _ _ _ h=>h) (Or.inl ⟨by rfl,?_⟩) (by assumption) ?_
   rotate_left
   ·(intro w hSw;(try dsimp only at hSw);go_simp)<;>with_reducible rfl
   simp only [Act.put,J];refine wpAnyH_take (i:=37) (v:= ?_) rfl (by kernel_rfl) (by kernel_rfl) (by kernel_rfl) (fun _ _ _ h=>h) (Or.inl ⟨by rfl,?_⟩) (by assumption) ?_
   rotate_left
   ·(intro w hSw;(try dsimp only at hSw);go_simp)<;>with_reducible rfl
   simp only [Act.put,J];refine wpAnyH_take (i:=38) (v:= ?_) rfl (by kernel_rfl) (by kernel_rfl) (by kernel_rfl) (fun _ _ _ h=>h) (Or.inl ⟨by rfl,?_⟩) (by assumption) ?_
   rotate_left
   ·(intro w hSw;(try dsimp only at hSw);go_simp)<;>with_reducible rfl
   simp only [Act.put,J];refine wpAnyH_done (by kernel_rfl) ?_ _
   go_wp2_with fail
   go_roundw
   case rel=>exact ⟨m+1,r',by omega,by go_num,HP7.out _ (by (repeat (with_reducible first|assumption|exact Fr.refl _ _|refine Fr.alloc ?_ _|refine Fr.drew ?_|refine Fr.drewN ?_ _));done)⟩
   case measure=>simp [intOf];omega
end Go.Proofs.YtjnfmfmglehmbaaGreat
