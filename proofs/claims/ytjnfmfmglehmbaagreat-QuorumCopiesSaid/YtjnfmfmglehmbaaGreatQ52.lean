/-
  The reference's quorum: who leads.
-/
import Derived.Test.YtjnfmfmglehmbaaGreatQ50
import Derived.Test.YtjnfmfmglehmbaaGreatQ32
namespace Go.Proofs.YtjnfmfmglehmbaaGreat
open Go.ChangeShapes Go.WideShapes Go.ChangeAt Go.RowKit
set_option linter.unusedVariables false
set_option maxRecDepth 100000
set_option maxHeartbeats 4000000
section
section
variable {w w' :World}{lab lab' :Nat→Option Nat}{z n m:Nat}{pv:Nat→Nat}{q q1:Qs}{F:Nat→Prop}
theorem eD.row (h:eD w lab z pv q n):∃br cr,q.n≤cr∧cr≤maxLen∧∀W,Fr No w W→W.cell? ⟨z,0,none⟩=some (.slice (some ⟨br,0,none⟩) q.n cr)∧∀i,i<q.n→W.cell? ⟨br,i,none⟩=some (.pointer (some ⟨pv i,0,none⟩)):=by
 obtain ⟨Ar,cr,NV,DV,vs,h1,h2,h3,h4⟩:=h.mem;have hp:=h.ok.pos;have hc:=h2.cap;obtain ⟨br,rfl,hbl,-,hb⟩:=iV h2 hp;refine ⟨br,cr,hc.1,hc.2,fun W hf=>⟨(h1.fr hf id).cell 0,fun i hi=> ?_⟩⟩;have:=(hb i (by simpa using hi)).1;rw [hf.cell (p:=⟨br,i,none⟩) hbl id,this]
 simp
theorem eD.rep (h:eD w lab z pv q n)(i:Nat)(hi:i<q.n):∃j,∀W,Fr No w W→W.cell? ⟨pv i,0,none⟩=some (.pointer (some ⟨j,0,none⟩))∧W.cell? ⟨pv i,3,none⟩=some (.int .i64 (q.rs i).role)∧W.cell? ⟨j,1,none⟩=some (.int .i64 (q.rs i).js.term):=by
 obtain ⟨j,A,c,-,-,-,-,-,hv⟩:=(h.jN i hi).ahz;exact ⟨j,fun W hf=>let ⟨a,b,_,d,_⟩:=hv W No hf (fun _ _ h=>h);⟨a,b,d⟩⟩
set_option maxHeartbeats 8000000 in
theorem ab8 (h:eD w lab z pv q n):Calls Tryz.prog 70 #[.pointer (some ⟨z,0,none⟩)] w fun e w' =>e= .returned (.int .i64 (gX q.rs q.n))∧Fr No w w' :=by
 have hrep:=fun i hi=>h.rep i hi;have h5:=h.ok.five;have hzl:=h.lt z 0 h.z0;obtain ⟨br,cr,hnc,hcm,hr⟩:=h.row;obtain ⟨z0,-⟩:=hr w (Fr.refl _ _);unfold maxLen at hcm;obtain ⟨N,hN⟩:∃N,N=q.n:=⟨_,rfl⟩;rw [←hN] at hrep h5 hr z0 hnc ⊢;clear h hN;obtain ⟨qY,HR⟩:=aO hrep hr;clear hrep hr
 go_in
 go_wp2_with fail
 go_loopw [3,4] (fun b i wr=>∃k:Nat,k≤N∧i= .int .i64 k∧b= .int .i64 (gX q.rs k)∧Fr No w wr) (fun _ i _=>N-(intOf i).toNat)
 case atStart=>exact ⟨0,Nat.zero_le _,rfl,rfl,Fr.refl _ _⟩
 case round=>
  obtain ⟨k,hk,rfl,rfl,hf⟩:=hrel;obtain ⟨z1,cr1⟩:=HR.out wr hf
  by_cases hlt:k<N
  ·have b1:decide (k<N)=true:=decide_eq_true hlt
   have b2:decide ((k:Int)<(N:Int))=true:=dtt;have hk2:(k:Int)<(N:Int):=by omega
   have ck:=cr1 k hlt;obtain ⟨jk,hjk⟩:=qY.out k hlt;obtain ⟨k0,k3,kt⟩:=hjk wr hf
   rcases qE q.rs k with hl|⟨hl0,hl1⟩
   ·by_cases h3:(q.rs k).role=3
    ·rw [h3] at k3
     have hy:=pF (rs:=q.rs) (k:=k) h3 (.inl oy);rw [hl];clear cr1 hl hjk h3;obtain ⟨HF,HY⟩:=aO hf hy;clear hf hy
     go_wp2_with fail
     go_quiet (fail)
     go_wp2_with fail
     go_roundw
     case rel=>exact ⟨k+1,by omega,by go_num,by rw [HY.out],HF.out.drewN _⟩
     case measure=>simp [intOf];omega
    ·have g1:((q.rs k).role == 3)=false:=by simpa using h3
     have hy:=nP (rs:=q.rs) (k:=k) (fun hh=>absurd hh h3);rw [hl] at hy ⊢;clear cr1 hl h3 hjk;generalize (q.rs k).role=RO at*;obtain ⟨HF,HY⟩:=aO hf hy;clear hf hy
     go_wp2_with fail
     go_quiet (fail)
     go_wp2_with fail
     go_roundw
     case rel=>exact ⟨k+1,by omega,by go_num,by rw [HY.out],HF.out.drewN _⟩
     case measure=>simp [intOf];omega
   ·obtain ⟨b,hb⟩:∃b:Nat,gX q.rs k=(b:Int):=⟨_,(Int.toNat_of_nonneg hl0).symm⟩
    have hbN:b<N:=by omega
    have ar5:(b:Int)<(N:Int):=by omega
    have cb:=cr1 b hbN;obtain ⟨jb,hjb⟩:=qY.out b hbN;obtain ⟨p0,-,pt⟩:=hjb wr hf;have n0:decide ((b:Int)<0)=false:=dff
    by_cases h3:(q.rs k).role=3
    ·rw [h3] at k3
     by_cases ht:(q.rs b).js.term<(q.rs k).js.term
     ·have hy:=pF (rs:=q.rs) (k:=k) h3 (.inr (by rw [hb];exact ht))
      have g2:decide ((q.rs b).js.term<(q.rs k).js.term)=true:=decide_eq_true ht;rw [hb];clear cr1 hl0 hl1 hb ht hjk hjb h3;generalize (q.rs b).js.term=TB at*;generalize (q.rs k).js.term=TK at*;obtain ⟨HF,HY⟩:=aO hf hy;clear hf hy
      go_wp2_with fail
      go_quiet (fail)
      go_wp2_with fail
      go_roundw
      case rel=>exact ⟨k+1,by omega,by go_num,by rw [HY.out],HF.out.drewN _⟩
      case measure=>simp [intOf];omega
     ·have hy:=nP (rs:=q.rs) (k:=k) (fun _=>by rw [hb];simp only [Int.toNat_natCast];omega)
      have g2:decide ((q.rs b).js.term<(q.rs k).js.term)=false:=decide_eq_false ht;rw [hb] at hy ⊢;clear cr1 hl0 hl1 hb ht hjk hjb h3;generalize (q.rs b).js.term=TB at*;generalize (q.rs k).js.term=TK at*;obtain ⟨HF,HY⟩:=aO hf hy;clear hf hy
      go_wp2_with fail
      go_quiet (fail)
      go_wp2_with fail
      go_roundw
      case rel=>exact ⟨k+1,by omega,by go_num,by rw [HY.out],HF.out.drewN _⟩
      case measure=>simp [intOf];omega
    ·have g1:((q.rs k).role == 3)=false:=by simpa using h3
     have hy:=nP (rs:=q.rs) (k:=k) (fun hh=>absurd hh h3);rw [hb] at hy ⊢;clear cr1 hl0 hl1 hb h3 hjk hjb;generalize (q.rs k).role=RO at*;obtain ⟨HF,HY⟩:=aO hf hy;clear hf hy
     go_wp2_with fail
     go_quiet (fail)
     go_wp2_with fail
     go_roundw
     case rel=>exact ⟨k+1,by omega,by go_num,by rw [HY.out],HF.out.drewN _⟩
     case measure=>simp [intOf];omega
  ·obtain rfl:k=N:=by omega
   have b1:decide (k<k)=false:=by simp
   have HF:=O hf;clear hf
   go_wp2_with fail
   go_ret
   exact ⟨rfl,HF.out⟩
end
end
section
section
variable {w w' :World}{lab lab' dG:Nat→Option Nat}{z zp zr n m:Nat}{pv pv2:Nat→Nat}{q q1:Qs}{F:Nat→Prop}
set_option maxHeartbeats 1000000 in
theorem acw (h:QAt w lab z pv q n)(i:Int)(hi:¬(0≤i∧i<q.n)):Calls Tryz.prog 72 #[.pointer (some ⟨z,0,none⟩),.int .i64 i] w fun e w' =>e= .returned (.int .i64 0)∧w=w' :=by
 have hh:=vL h i;rw [decide_eq_false hi] at hh;clear h;have HH:=O hh;clear hh
 go_in
 go_wp2_with fail
 refine HH.out.mono ?_;rintro e w1 ⟨rfl,rfl⟩
 go_wp2_with fail
 go_ret
 exact ⟨rfl,rfl⟩
set_option maxHeartbeats 1000000 in
theorem acv (h:QAt w lab z pv q n)(i:Int)(hi:¬(0≤i∧i<q.n)):Calls Tryz.prog 73 #[.pointer (some ⟨z,0,none⟩),.int .i64 i] w fun e w' =>e= .returned (.int .i64 0)∧w=w' :=by
 have hh:=vL h i;rw [decide_eq_false hi] at hh;clear h;have HH:=O hh;clear hh
 go_in
 go_wp2_with fail
 refine HH.out.mono ?_;rintro e w1 ⟨rfl,rfl⟩
 go_wp2_with fail
 go_ret
 exact ⟨rfl,rfl⟩
set_option maxHeartbeats 1000000 in
theorem aft (h:QAt w lab z pv q n)(i:Int)(hi:¬(0≤i∧i<q.n)):Calls Tryz.prog 74 #[.pointer (some ⟨z,0,none⟩),.int .i64 i] w fun e w' =>e= .returned (.slice none 0 0)∧w=w' :=by
 have hh:=vL h i;rw [decide_eq_false hi] at hh;clear h;have HH:=O hh;clear hh
 go_in
 go_wp2_with fail
 refine HH.out.mono ?_;rintro e w1 ⟨rfl,rfl⟩
 go_wp2_with fail
 go_ret
 exact ⟨rfl,rfl⟩
set_option maxHeartbeats 8000000 in
theorem sF (hp:QAt w lab zp pv q n)(hr:eD w dG zr pv2 q m):Calls Tryz.prog 28 #[.pointer (some ⟨zp,0,none⟩),.pointer (some ⟨zr,0,none⟩)] w fun e w' =>e= .returned (.bool true)∧Fr No w w' :=by
 have h5:=hp.ok.five;have jF:=hp.ok.net;have hd4:=hp.ok.done;have aqn:=fun W (hf:Fr No w W)=>(ank (hp.ak hf)).mono (R' :=fun e w' =>∃A c,e= .returned (.slice A q.net.length c)∧(∃M,bF w' M (.slice A q.net.length c) q.net)∧Fr No W w') fun e w' ⟨A,c,Gs,Ge,vs,he,hm,_,_,hf⟩=>⟨A,c,he,⟨fun b=>Gs b∨Ge b,Gs,Ge,vs,hm,fun i hi=> .inl hi,fun i hi=> .inr hi⟩,hf⟩;have hLd:=fun W (hf:Fr No w W)=>yP (hp.ak hf);have hRL:=fun W (hf:Fr No w W)=>ab8 (hr.ak hf);have hCm:=fun W (hf:Fr No w W)=>(qh (hp.ak hf)).mono (R' :=fun e w' =>∃A c,e= .returned (.slice A q.done.length c)∧(∀V,Fr No w' V→Rd V V.heap.size A (gV q.done))∧(q.done.length≤c∧c≤maxLen)∧Fr No W w') fun e w' ⟨A,c,he,ho,hf⟩=>⟨A,c,he,fun V hV=>(ho.ak hV).rd,ho.cap,hf⟩;have hRo:=fun W (hf:Fr No w W) i hi=>ak1 (hp.ak hf) i hi;have hTe:=fun W (hf:Fr No w W) i hi=>ak0 (hp.ak hf) i hi;have hCo:=fun W (hf:Fr No w W) i hi=>afv (hp.ak hf) i hi;have hLo:=fun W (hf:Fr No w W) i hi=>(anl (hp.ak hf) i hi).mono (R' :=fun e w' =>∃A c,e= .returned (.slice A (q.rs i).js.log.length c)∧Ent w' (fun b=>W.heap.size≤b) (.slice A (q.rs i).js.log.length c) (q.rs i).js.log∧Fr No W w') fun e w' ⟨A,c,he,ho,hf⟩=>⟨A,c,he,Ent.iW ho,hf⟩;have hNR:=fun W (hf:Fr No w W)=>acw (hp.ak hf) (-1) oy;have hNT:=fun W (hf:Fr No w W)=>acv (hp.ak hf) (q.n:Int) oy;have hNL:=fun W (hf:Fr No w W)=>aft (hp.ak hf) (-1) oy;have hpos:=hp.ok.pos;have hrep:∀k,k<q.n→∃pr j Al cl,pr<w.heap.size∧j<w.heap.size∧(q.rs k).js.log.length≤cl∧cl≤maxLen∧pr=pv2 k∧(q.rs k).js.log.length≤4096∧(∀V,Fr No w V→V.cell? ⟨pr,0,none⟩=some (.pointer (some ⟨j,0,none⟩))∧V.cell? ⟨pr,3,none⟩=some (.int .i64 (q.rs k).role)∧V.cell? ⟨pr,4,none⟩=some (.int .i64 ((q.rs k).commit:Int))∧V.cell? ⟨j,1,none⟩=some (.int .i64 (q.rs k).js.term)∧V.cell? ⟨j,3,none⟩=some (.slice Al (q.rs k).js.log.length cl))∧∀V A c (G1:Nat→Prop),Fr No w V→Ent V G1 (.slice A (q.rs k).js.log.length c) (q.rs k).js.log→Calls Tryz.prog 17 #[.slice A (q.rs k).js.log.length c,.slice Al (q.rs k).js.log.length cl] V fun e w' =>e= .returned (.bool true)∧Fr No V w' :=fun k hk=>by
  obtain ⟨j,A,c,v1,v2,v3,v4,v5,v6⟩:=(hr.jN k hk).ahz;refine ⟨pv2 k,j,A,c,v1,v2,v3,v4,rfl,((hr.ok.each k hk).1).log.few,fun V hf=>v6 V No hf (fun _ _ h=>h),fun V A1 c1 G1 hf ho=> ?_⟩;have:=iJ ho (v5.ak hf)
  simpa using this
 obtain ⟨br,cr,hnc,hcm,hrow⟩:=hr.row;obtain ⟨Ar,cr',NV,DV,vs,h1,h2,h3,h4⟩:=hr.mem;obtain ⟨An,cn,rfl,-⟩:=h3.own.form;obtain ⟨Ad,cd,rfl,-⟩:=h4.form;have hcn:=h3.own.cap;have hcd:=h4.cap;have hk:∀V,Fr No w V→V.cell? ⟨zr,0,none⟩=some (.slice (some ⟨br,0,none⟩) q.n cr)∧V.cell? ⟨zr,1,none⟩=some (.slice An q.net.length cn)∧V.cell? ⟨zr,2,none⟩=some (.slice Ad q.done.length cd):=fun V hf=>⟨(hrow V hf).1,(h1.fr hf fun h=>h).cell 1,(h1.fr hf fun h=>h).cell 2⟩;have hSm:=fun V A c (hf:Fr No w V) (hM:∃M,bF V M (.slice A q.net.length c) q.net)=>(let ⟨M,hM⟩:=hM;mK hM (show bF V (fun b=>dG b=some 2∨dG b=some 3) (.slice An q.net.length cn) q.net from ⟨_,_,vs,h3.ak hf,fun i hi=> .inl hi,fun i hi=> .inr hi⟩));have hSe:=fun V A c (hf:Fr No w V) (hrd:Rd V V.heap.size A (gV q.done)) (hc:q.done.length≤c∧c≤maxLen)=>vv (c:=c) hrd (show Rd V V.heap.size Ad (gV q.done) from (h4.ak hf).rd) hc.1 hc.2 hcd.1 hcd.2;simp only [decide_true] at hSe;have hzl:=h1.lt;obtain ⟨c0,c1,c2⟩:=hk w (Fr.refl _ _);clear hp hr h1 h2 h3 h4;unfold maxLen at hcm hcn hcd;generalize gX q.rs q.n=LD at*;obtain ⟨L,hL⟩:∃L,L=q.net.length:=⟨_,rfl⟩;obtain ⟨D,hD⟩:∃D,D=q.done.length:=⟨_,rfl⟩;obtain ⟨N,hN⟩:∃N,N=q.n:=⟨_,rfl⟩;simp only [←hL,←hD,←hN] at*;obtain ⟨HL9,HD9,HN9⟩:=bP hL hD hN;clear hL hD hN;obtain ⟨amt,HLD,HRL,HCM,HRO,HTE,HCO,HLO,HNR,HNT,HNL,qY⟩:=gY aqn hLd hRL hCm hRo hTe hCo hLo hNR hNT hNL hrep;obtain ⟨aot,HK,HSM,HSE⟩:=fK hrow hk hSm hSe;clear aqn hLd hRL hCm hRo hTe hCo hLo hNR hNT hNL hrep hrow hk hSm hSe
 go_in
 go_wp2_with fail
 go_region_held3 (fun V=>V.cell? ⟨zr,0,none⟩=some (.slice (some ⟨br,0,none⟩) N cr)∧V.cell? ⟨zr,1,none⟩=some (.slice An L cn)∧V.cell? ⟨zr,2,none⟩=some (.slice Ad D cd)) (exact HK.out _ frz) (first
  |(go_at_call 69;refine (amt.out _ frz).mono ?_;rintro e w5 ⟨A5,c5,rfl,o5,f5⟩;have Q5:Fr No w w5:=Fr.ah frz f5;have O5:=O o5;clear f5 o5)
  |(go_at_call 40;refine (HSM.out _ _ _ frz (by obtain ⟨M,hM⟩:=O5.out;exact ⟨M,hM.ak frz⟩)).mono ?_;rintro e w6 ⟨rfl,f6⟩;have Q6:Fr No w w6:=Fr.ah frz f6;clear f6)
  |(go_at_call 60;refine (HLD.out _ frz).mono ?_;rintro e w7 ⟨rfl,f7⟩;have Q7:Fr No w w7:=Fr.ah frz f7;clear f7)
  |(go_at_call 70;refine (HRL.out _ frz).mono ?_;rintro e w8 ⟨rfl,f8⟩;have Q8:Fr No w w8:=Fr.ah frz f8;clear f8)
  |(go_at_call 59;refine (HCM.out _ frz).mono ?_;rintro e w9 ⟨A9,c9,rfl,o9,p9,f9⟩;have Q9:Fr No w w9:=Fr.ah frz f9;have O9:=O o9;have P9:=O p9;clear f9 o9 p9)
  |(go_at_call 71;refine (HSE.out _ _ _ frz (O9.out _ frz) P9.out).mono ?_;rintro e w10 ⟨rfl,f10⟩;have Q10:Fr No w w10:=Fr.ah frz f10;clear f10)
  |(go_at_call 72;refine (HNR.out _ frz).mono ?_;rintro e w11 ⟨rfl,rfl⟩)
  |(go_at_call 73;refine (HNT.out _ frz).mono ?_;rintro e w12 ⟨rfl,rfl⟩)
  |(go_at_call 74;refine (HNL.out _ frz).mono ?_;rintro e w13 ⟨rfl,rfl⟩))
 have F10:=O Q10;generalize w10=W1 at*;clear c0 c1 c2 Q5 Q6 Q7 Q8 Q9 Q10 O5 O9 P9;clear amt HSM HLD HRL HCM HSE HNR HNT HNL
 go_wp2_with fail
 go_loopw [5] (fun i wr=>∃k:Nat,k≤N∧i= .int .i64 k∧Fr No w wr) (fun i _=>N-(intOf i).toNat)
 case atStart=>exact ⟨0,Nat.zero_le _,rfl,F10.out⟩
 case round=>
  obtain ⟨k,hk,rfl,hf⟩:=hrel;obtain ⟨c0,-,-⟩:=HK.out wr hf
  by_cases hlt:k<N
  ·have b1:decide (k<N)=true:=decide_eq_true hlt
   have b2:decide ((k:Int)<(N:Int))=true:=dtt;have hk2:(k:Int)<(N:Int):=by omega
   have ck:=(aot.out wr hf).2 k hlt;obtain ⟨pr,j,Al,cl,v1,v2,v3,v4,rfl,v5,v6,v7⟩:=qY.out k hlt;have apt:=fun W hf=>HRO.out W hf k hlt;have apr:=fun W hf=>HTE.out W hf k hlt;have aqg:=fun W hf=>HCO.out W hf k hlt;have ap4:=fun W hf=>HLO.out W hf k hlt;generalize pv2 k=pr at*;generalize (q.rs k).role=RO at*;generalize ((q.rs k).commit:Int)=CM at*;generalize (q.rs k).js.term=TM at*;generalize hLL:(q.rs k).js.log.length=LL at*;have hpl:=nll v1 hf.size;have hjl:=nll v2 hf.size;unfold maxLen at v4;obtain ⟨asj,ash,as5,as1,HF,V6,V7,HLL⟩:=ae6 apt apr aqg ap4 hf v6 v7 hLL;clear apt apr aqg ap4 hf v6 v7 hLL;clear v1 v2
   go_wp2_with fail
   go_region_held3 (fun V=>V.cell? ⟨pr,0,none⟩=some (.pointer (some ⟨j,0,none⟩))∧V.cell? ⟨pr,3,none⟩=some (.int .i64 RO)∧V.cell? ⟨pr,4,none⟩=some (.int .i64 CM)∧V.cell? ⟨j,1,none⟩=some (.int .i64 TM)∧V.cell? ⟨j,3,none⟩=some (.slice Al LL cl)) (exact V6.out _ (HF.out.ah frz)) (first
    |(go_at_call 72;refine (asj.out _ (HF.out.ah frz)).mono ?_;rintro e w' ⟨rfl,rfl⟩)
    |(go_at_call 73;refine (ash.out _ (HF.out.ah frz)).mono ?_;rintro e w' ⟨rfl,rfl⟩)
    |(go_at_call 75;refine (as5.out _ (HF.out.ah frz)).mono ?_;rintro e w' ⟨rfl,rfl⟩)
    |(go_at_call 74;refine (as1.out _ (HF.out.ah frz)).mono ?_;rintro e w5 ⟨A5,c5,rfl,o5,f5⟩;have Q5:Fr No wr w5:=Fr.ah frz f5;have O5:=O o5;clear f5 o5)
    |(go_at_call 17;refine (V7.out _ _ _ _ (HF.out.ah frz) (O5.out.ak frz)).mono ?_;rintro e w8 ⟨rfl,f8⟩;have Q8:Fr No wr w8:=Fr.ah frz f8;clear f8))
   have F8:=O (HF.out.ah Q8);clear Q8
   go_wp2_with fail
   go_roundw
   case rel=>exact ⟨k+1,by omega,by go_num,F8.out⟩
   case measure=>simp [intOf];omega
  ·obtain rfl:k=N:=by omega
   have b1:decide (k<k)=false:=by simp
   have HF:=O hf;clear hf
   go_wp2_with fail
   go_ret
   exact ⟨rfl,HF.out⟩
end
end
section
section
variable {w w' :World}{lab lab' :Nat→Option Nat}{z n m:Nat}{pv:Nat→Nat}{q q1:Qs}{F:Nat→Prop}
theorem aak {rs:Nat→Rs}{d:List En}{N:Nat}(h:∀i,i<N→(rs i).commit≤(rs i).js.log.length):∀k,k<N→(iR rs d k).length≤(iR rs d (k+1)).length∧(rs k).commit≤(iR rs d (k+1)).length:=by
 intro k hk;have hc:=h k hk;simp only [iR]
 split
 ·rename_i hh
  exact ⟨Nat.le_refl _,hh⟩
 ·rw [List.length_map,List.length_take]
  omega
theorem ada {rs:Nat→Rs}{d:List En}{N:Nat}(h:∀i,i<N→(rs i).commit≤(rs i).js.log.length):∀j,j≤N→∀k,k<j→(rs k).commit≤(iR rs d j).length:=by
 intro j
 induction j with
 |zero=>intro _ k hk;omega
 |succ j ih=>
  intro hj k hk;have hg:=aak (d:=d) h j oy
  rcases Nat.lt_or_ge k j with hl|hl
  ·exact Nat.le_trans (ih oy k hl) hg.1
  ·obtain rfl:k=j:=by omega
   exact hg.2
theorem aaj {rs:Nat→Rs}{D:List En}:∀k,(∀i,i<k→(rs i).commit≤D.length)→iR rs D k=D:=by
 intro k
 induction k with
 |zero=>intro _;rfl
 |succ k ih=>
  intro h;have hi:=ih fun i hi=>h i oy;simp only [iR];rw [hi,if_pos (h k oy)]
theorem ac8 (h:lu q):q.note.note=q.note:=by
 unfold Qs.note;simp only;rw [aaj q.n (ada (fun i hi=>(h.each i hi).1.com) q.n (Nat.le_refl _))]
set_option maxHeartbeats 8000000 in
theorem zU (h:eD w lab z pv q n)(y:Ms)(hm:fI q.n y)(A:Option Addr)(c:Nat)(hE:Ent w (part lab 3) (.slice A y.es.length c) y.es)(hsz:n+800000≤140737488355328):Calls Tryz.prog 67 #[.pointer (some ⟨z,0,none⟩),y.v (.slice A y.es.length c)] w fun e w' =>e= .returned (.tuple #[])∧gU w lab z pv (q.give y).note (n+700000) w' :=by
 obtain ⟨t,ht,hto⟩:=hm.to_;have hA:(q.give y).note=(q.put t ((q.rs t).handle y)).note:=by
  unfold Qs.give;rw [hto,Int.toNat_natCast]
 rw [hA];obtain ⟨kd,mf,mto,mt,ix,pr,cm,ok,es⟩:=y;simp only at hto hE;subst hto;have hlen:es.length≤4096:=hm.few;have rO:=hm.es;obtain ⟨W0,hW0⟩:∃W0,W0=w.alloc (.cells #[.int .i64 kd,.int .i64 mf,.int .i64 (t:Int),.int .i64 mt,.int .i64 ix,.int .i64 pr,.int .i64 cm,.bool ok,.slice A es.length c] TMs):=⟨_,rfl⟩;have hf0:Fr No w W0:=by rw [hW0];exact aj _ _
 obtain ⟨g,hg⟩:∃g,g=w.heap.size:=⟨_,rfl⟩;have hb0:Blk W0 g TMs #[.int .i64 kd,.int .i64 mf,.int .i64 (t:Int),.int .i64 mt,.int .i64 ix,.int .i64 pr,.int .i64 cm,.bool ok,.slice A es.length c]:=by rw [hg,hW0];exact Blk.new _ _ _
 obtain ⟨br,cr,hnc,hcm,hb1,hbl,r0,r1⟩:=h.xD;have hzw:=h.lt z 0 h.z0;have hgn:lab g=none:=by
  cases hlg:lab g with
  |none=>rfl
  |some j=>exact absurd (h.lt g j hlg) oy
 have hgk:=fun W V (hf:Fr No W0 W) (hk:Keeps W lab z V) (o:Nat)=>(hk.1 ⟨g,o,none⟩ (nll hb0.lt hf.size) (.inl hgn)).trans ((hb0.fr hf fun h=>h).cell o);have hks:=fun W V (hf:Fr No W0 W) (hk:Keeps W lab z V)=>(⟨hk.2.trans (((hf0.ah hf).cell (p:=⟨z,0,none⟩) hzw fun h=>h).trans r0),hgk W V hf hk 0,hgk W V hf hk 1,hgk W V hf hk 2,hgk W V hf hk 3,hgk W V hf hk 4,hgk W V hf hk 5,hgk W V hf hk 6,hgk W V hf hk 7,hgk W V hf hk 8,(hk.1 ⟨br,t,none⟩ (nll hbl (hf0.ah hf).size) (.inr hb1)).trans (((hf0.ah hf).cell (p:=⟨br,t,none⟩) hbl fun h=>h).trans (r1 t ht))⟩:V.cell? ⟨z,0,none⟩=some (.slice (some ⟨br,0,none⟩) q.n cr)∧V.cell? ⟨g,0,none⟩=some (.int .i64 kd)∧V.cell? ⟨g,1,none⟩=some (.int .i64 mf)∧V.cell? ⟨g,2,none⟩=some (.int .i64 (t:Int))∧V.cell? ⟨g,3,none⟩=some (.int .i64 mt)∧V.cell? ⟨g,4,none⟩=some (.int .i64 ix)∧V.cell? ⟨g,5,none⟩=some (.int .i64 pr)∧V.cell? ⟨g,6,none⟩=some (.int .i64 cm)∧V.cell? ⟨g,7,none⟩=some (.bool ok)∧V.cell? ⟨g,8,none⟩=some (.slice A es.length c)∧V.cell? ⟨br,t,none⟩=some (.pointer (some ⟨pv t,0,none⟩)));have h5:=h.ok.five;obtain ⟨o1,o2,o3⟩:=h.ok.each t ht;have hcall:=fun W (hf:Fr No w W)=>vE ((h.ak hf).jN t ht) ⟨kd,mf,t,mt,ix,pr,cm,ok,es⟩ A c (hE.ak hf) (aG oy) rO (by show es.length≤1000000;omega) oy;have fC:=fun W W' x (hf:Fr No w W) hc=>(h.ak hf).sent (m:=n+700000) ht (x:=(q.rs t).handle ⟨kd,mf,t,mt,ix,pr,cm,ok,es⟩) (e:=x) (w' :=W') oy hc (iA _ _).1 (iA _ _).2 (by have:=o1.kr (m:=⟨kd,mf,t,mt,ix,pr,cm,ok,es⟩);rw [o3] at this;exact this) o1.kX
 have hend:=fun W W' (hf:Fr No w W) (hq:gU W lab z pv (q.put t ((q.rs t).handle ⟨kd,mf,t,mt,ix,pr,cm,ok,es⟩)).note (n+700000) W')=>gU.after hf h.lt hq;have hi2:(t:Int)<(q.n:Int):=by omega
 have t2:decide ((t:Int)<(q.n:Int))=true:=decide_eq_true hi2;have t2n:decide (t<q.n)=true:=decide_eq_true ht;have hzl:z<W0.heap.size:=nll hzw hf0.size;have hgl:=hb0.lt;obtain ⟨c0,c1,c2,c3,c4,c5,c6,c7,c8,c9,c10⟩:=hks W0 W0 (Fr.refl _ _) ⟨fun _ _ _=>rfl,rfl⟩;unfold maxLen at hcm;have FF:=O hf0;generalize (q.rs t).handle ⟨kd,mf,t,mt,ix,pr,cm,ok,es⟩=HH at*;unfold Ms.v at hcall ⊢;clear h hb0 hf0 o1 o2 o3 hgk hE hm hA r0 r1;obtain ⟨HKS,dL,gq,dZ,HW0,HG⟩:=lG hks hcall fC hend hW0 hg;clear hks hcall fC hend hW0 hg
 go_in
 go_upto_region 1 with fail
 rw [←HW0.out,←HG.out];clear HW0 HG
 go_quiet (fail)
 have K1:=O ((Fr.refl No W0).drewN nq);generalize W0.drewN nq=w1 at*;obtain ⟨d0,d1,d2,d3,d4,d5,d6,d7,d8,d9,d10⟩:=HKS.out w1 w1 K1.out ⟨fun _ _ _=>rfl,rfl⟩;have F1:=O (FF.out.ah K1.out).drew;have hd:=HKS.out w1.drew w1.drew K1.out.drew ⟨fun _ _ _=>rfl,rfl⟩;have HKT:=O fun V (hk:Keeps w1.drew lab z V)=>HKS.out w1.drew V K1.out.drew hk;have hz1:z<w1.heap.size:=nll hzl K1.out.size;have hg1:g<w1.heap.size:=nll hgl K1.out.size;have mq:=O (dL.out _ F1.out);have ny:=O fun W' x=>gq.out _ W' x F1.out;clear c0 c1 c2 c3 c4 c5 c6 c7 c8 c9 c10 HKS dL gq K1
 go_wp2_with fail
 go_region_held3 (fun V=>V.cell? ⟨z,0,none⟩=some (.slice (some ⟨br,0,none⟩) q.n cr)∧V.cell? ⟨g,0,none⟩=some (.int .i64 kd)∧V.cell? ⟨g,1,none⟩=some (.int .i64 mf)∧V.cell? ⟨g,2,none⟩=some (.int .i64 (t:Int))∧V.cell? ⟨g,3,none⟩=some (.int .i64 mt)∧V.cell? ⟨g,4,none⟩=some (.int .i64 ix)∧V.cell? ⟨g,5,none⟩=some (.int .i64 pr)∧V.cell? ⟨g,6,none⟩=some (.int .i64 cm)∧V.cell? ⟨g,7,none⟩=some (.bool ok)∧V.cell? ⟨g,8,none⟩=some (.slice A es.length c)∧V.cell? ⟨br,t,none⟩=some (.pointer (some ⟨pv t,0,none⟩))) (first|exact hd|exact k1|exact k2) (first
  |(go_at_call 50;refine mq.out.mono ?_;rintro e v1 hc;obtain ⟨A1,c1',rfl,k1',hs⟩:=ny.out _ _ hc;have k1:=HKT.out _ k1';have HS2:=O hs;clear hc k1' hs)
  |(go_at_call 65;refine HS2.out.mono ?_;rintro e v2 ⟨rfl,k2',q2⟩;have k2:=HKT.out _ k2';have Q2:=O q2;clear k2' q2))
 have dP:=O (gU.noted Q2.out);clear hd HKT d0 d1 d2 d3 d4 d5 d6 d7 d8 d9 d10 k2 mq ny HS2
 go_wp2_with fail
 refine dP.out.mono ?_;rintro e v3 ⟨rfl,q3⟩;have Q3:=O (dZ.out _ _ F1.out q3);clear q3 dP dZ Q2
 go_wp2_with fail
 go_end0
 exact ⟨rfl,Q3.out⟩
end
end
section
section
variable {w w' :World}{lab lab' :Nat→Option Nat}{z n m:Nat}{pv:Nat→Nat}{q q1:Qs}{F:Nat→Prop}
theorem in_range (x:Int)(N:Nat):∃B,B=decide (0≤x∧x<(N:Int))∧((decide (0≤x)=true∧decide (x<(N:Int))=true∧B=true)∨(decide (0≤x)=true∧decide (x<(N:Int))=false∧B=false)∨(decide (0≤x)=false∧B=false)):=by
 refine ⟨_,rfl,?_⟩
 by_cases h0:0≤x
 ·by_cases h1:x<(N:Int)
  ·exact .inl ⟨decide_eq_true h0,decide_eq_true h1,decide_eq_true ⟨h0,h1⟩⟩
  ·exact .inr (.inl ⟨decide_eq_true h0,decide_eq_false h1,decide_eq_false fun h=>h1 h.2⟩)
 ·exact .inr (.inr ⟨decide_eq_false h0,decide_eq_false fun h=>h0 h.1⟩)
def oo (w:World)(lab:Nat→Option Nat)(z:Nat)(pv:Nat→Nat)(q:Qs)(n:Nat)(kind who num:Int)(e:En)(x:Ending)(w' :World):Prop:=
 x= .returned (.int .i64 (q.jh kind who num e))∧gU w lab z pv (q.act kind who num e) (n+700000) w'
theorem afm {p:Nat}{r:Rs}(h:bR w F p r n):Calls Tryz.prog 45 #[.pointer (some ⟨p,0,none⟩)] w (aH w F p (rQ r) n):=ab5 h
theorem eD.crashed (h:eD w lab z pv q n){i:Nat}(hi:i<q.n){r:Rs}(hr:bY w (part lab (10+i)) (pv i) r n w')(h1:r.id=(q.rs i).id)(h2:r.n=(q.rs i).n):gU w lab z pv (q.put i (r,[])) n w'∧Keeps w lab z w' :=by
 obtain ⟨A,c,lab',Gs,vs,-,a2,-,-,a5,a6⟩:=h.turned hi (Nat.le_refl _) (aH.mk' hr (fF.none_ w')) h1 h2;exact ⟨⟨lab',a2,a5,a6.mono fun b hb=>by
  have hb:lab b=some (10+i):=hb;rw [hb];simp⟩,h.keeps a6⟩
set_option maxHeartbeats 8000000 in
theorem aic (h:eD w lab z pv q n)(i:Nat)(hi:i<q.n)(num:Int)(e:En)(hsz:n+800000≤1000000000000):Calls Tryz.prog 27 #[.pointer (some ⟨z,0,none⟩),gZ 1 i num e] w (oo w lab z pv q n 1 i num e):=by
 have hpm:q.permits 1 (i:Int) num=true:=by unfold Qs.permits;simp;omega
 have hX:q.jh 1 (i:Int) num e=0:=by unfold Qs.jh;simp [hpm]
 have hA:q.act 1 (i:Int) num e=(q.put i ((q.rs i).aJ)).note:=by unfold Qs.act;simp [hX]<;>rfl
 obtain ⟨W0,hW0⟩:∃W0,W0=w.alloc (.cells (eU 1 (i:Int) num e).toArray fE):=⟨_,rfl⟩;have hf0:Fr No w W0:=by rw [hW0];exact aj _ _
 obtain ⟨g,hg⟩:∃g,g=w.heap.size:=⟨_,rfl⟩;have hb0:Blk W0 g fE (eU 1 (i:Int) num e).toArray:=by rw [hg,hW0];exact Blk.new _ _ _
 have hac:=fun W (hf:Fr No W0 W)=>aM (hb0.fr hf id);obtain ⟨br,cr,hnc,hcm,hb1,hbl,r0,r1⟩:=h.xD;obtain ⟨nA,nc,hnv,qJ⟩:∃nA nc,w.cell? ⟨z,1,none⟩=some (.slice nA q.net.length nc)∧(q.net.length≤nc∧nc≤maxLen):=(let ⟨_,_,_,_,_,m1,_,m3,_⟩:=h.mem;let ⟨A,c,hv,_⟩:=m3.own.form;⟨A,c,by rw [←hv];exact m1.cell 1,by have:=m3.own;rw [hv] at this;exact this.cap⟩);have hzw:=h.lt z 0 h.z0;have hzz:=fun W (hf:Fr No W0 W)=>(⟨((hf0.ah hf).cell (p:=⟨z,0,none⟩) hzw fun h=>h).trans r0,((hf0.ah hf).cell (p:=⟨z,1,none⟩) hzw fun h=>h).trans hnv,nll hzw (hf0.ah hf).size⟩:W.cell? ⟨z,0,none⟩=some (.slice (some ⟨br,0,none⟩) q.n cr)∧W.cell? ⟨z,1,none⟩=some (.slice nA q.net.length nc)∧z<W.heap.size);have hgn:lab g=none:=by
  cases hlg:lab g with
  |none=>rfl
  |some j=>exact absurd (h.lt g j hlg) oy
 have hks:=fun W V (hf:Fr No W0 W) (hk:Keeps W lab z V)=>(⟨hk.2.trans (hzz W hf).1,(hk.1 ⟨g,1,none⟩ (nll hb0.lt hf.size) (.inl hgn)).trans ((hb0.fr hf fun h=>h).cell 1),(hk.1 ⟨br,i,none⟩ (nll hbl (hf0.ah hf).size) (.inr hb1)).trans (((hf0.ah hf).cell (p:=⟨br,i,none⟩) hbl fun h=>h).trans (r1 i hi))⟩:V.cell? ⟨z,0,none⟩=some (.slice (some ⟨br,0,none⟩) q.n cr)∧V.cell? ⟨g,1,none⟩=some (.int .i64 i)∧V.cell? ⟨br,i,none⟩=some (.pointer (some ⟨pv i,0,none⟩)));obtain ⟨o1,o2,o3⟩:=h.ok.each i hi;have hcall:=fun W (hf:Fr No w W)=>pW ((h.ak hf).jN i hi) oy;have fC:=fun W W' x (hf:Fr No w W) hc=>(h.ak hf).sent (m:=n+48) hi (x:=((q.rs i).aJ)) (e:=x) (w' :=W') oy hc (jm _).1 (jm _).2 (by have:=o1.mE;rw [o3] at this;exact this) o1.oM;have hend:=fun W W' (hf:Fr No w W) (hq:gU W lab z pv (q.put i ((q.rs i).aJ)).note (n+48) W')=>gU.after (n:=n+700000) hf h.lt (hq.more oy);have hi2:(i:Int)<(q.n:Int):=by omega
 have t4:decide ((i:Int)<(q.n:Int))=true:=decide_eq_true hi2;have t5:decide (i<q.n)=true:=decide_eq_true hi;obtain ⟨TH,-,hth⟩:=in_range num q.net.length;have h5:=h.ok.five;have jF:=h.ok.net;obtain ⟨z0,z1,hzl⟩:=hzz W0 (Fr.refl _ _);obtain ⟨c0,c1,c2,c3,c4,c5,c6,c7,c8,c9,c10,c11⟩:=hac W0 (Fr.refl _ _);have hgl:=hb0.lt;unfold maxLen at hcm qJ;have FF:=O hf0;have vZ:=fun W (hf:Fr No W0 W)=>nll hb0.lt hf.size;unfold oo;rw [hX,hA];obtain ⟨ek,ti,te,ce,ot,ep,fr,un,nn⟩:=e;simp only [eU] at hW0;simp only at c3 c4 c5 c6 c7 c8 c9 c10 c11;unfold gZ;clear h hpm hX hA hb0 hf0 o1 o2 o3 r0 r1 hnv hzw hb1 hbl hgn;obtain ⟨HAC,HZZ,HKS,dL,gq,dZ,HW0,HG,HTH⟩:=aap hac hzz hks hcall fC hend hW0 hg hth;clear hac hzz hks hcall fC hend hW0 hg hth;have HGL:=O vZ;clear vZ
 go_in
 go_upto_region 1 with fail
 rw [←HW0.out,←HG.out];clear HW0
 go_cut [5] (fun x wx=>x= .bool true∧Fr No W0 wx)
 case first=>
  have hw9:=Fr.refl No W0
  go_quiet (fail)
  go_wp2_with fail
  go_meet
  exact ⟨rfl,frz⟩
 obtain ⟨rfl,f1⟩:=hcut;clear c0 c1 c2 c3 c4 c5 c6 c7 c8 c9 c10 c11 z0 z1 hzl hgl;obtain ⟨c0,c1,c2,c3,c4,c5,c6,c7,c8,c9,c10,c11⟩:=HAC.out wc f1;obtain ⟨z0,z1,hzl⟩:=HZZ.out wc f1;have hgl:=HGL.out wc f1;have G1:=O f1;generalize wc=w1 at*;clear f1
 go_upto_region 2 with fail
 go_cut [6] (fun x wx=>x= .bool TH∧Fr No w1 wx)
 case first=>
  rcases HTH.out with ⟨t1,t2,t3⟩|⟨t1,t2,t3⟩|⟨t1,t3⟩
  all_goals
   have T3:=O t3;clear t3
   go_quiet (fail)
   go_wp2_with fail
   go_meet
   exact ⟨by rw [T3.out],frz⟩
 obtain ⟨rfl,f2⟩:=hcut;clear c0 c1 c2 c3 c4 c5 c6 c7 c8 c9 c10 c11 z0 z1 hzl hgl;have G2:=O (G1.out.ah f2);clear f2 G1;obtain ⟨c0,c1,c2,c3,c4,c5,c6,c7,c8,c9,c10,c11⟩:=HAC.out wc G2.out;obtain ⟨z0,z1,hzl⟩:=HZZ.out wc G2.out;have hgl:=HGL.out wc G2.out;generalize wc=w2 at*;have F2:=O (FF.out.ah G2.out);have hd:=HKS.out w2.drew w2.drew G2.out.drew ⟨fun _ _ _=>rfl,rfl⟩;have HKT:=O fun V (hk:Keeps w2.drew lab z V)=>HKS.out w2.drew V G2.out.drew hk;have mq:=O (dL.out _ F2.out.drew);have ny:=O fun W' x=>gq.out _ W' x F2.out.drew;clear c1 c2 c3 c4 c5 c6 c7 c8 c9 c10 c11 z1 HKS HAC dL gq HZZ HGL
 go_wp2_with fail
 go_region_held3 (fun V=>V.cell? ⟨z,0,none⟩=some (.slice (some ⟨br,0,none⟩) q.n cr)∧V.cell? ⟨g,1,none⟩=some (.int .i64 i)∧V.cell? ⟨br,i,none⟩=some (.pointer (some ⟨pv i,0,none⟩))) (first|exact hd|exact k1|exact k2) (first
  |(go_at_call 41;refine mq.out.mono ?_;rintro e v1 hc;obtain ⟨A1,c1',rfl,k1',hs⟩:=ny.out _ _ hc;have k1:=HKT.out _ k1';have HS2:=O hs;clear hc k1' hs)
  |(go_at_call 65;refine HS2.out.mono ?_;rintro e v2 ⟨rfl,k2',q2⟩;have k2:=HKT.out _ k2';have Q2:=O q2;clear k2' q2))
 have dP:=O (gU.noted Q2.out);clear hd HKT c0 z0 k2 mq ny HS2
 go_wp2_with fail
 refine dP.out.mono ?_;rintro e v3 ⟨rfl,q3⟩;have Q3:=O (dZ.out _ _ F2.out.drew q3);clear q3 dP dZ Q2
 go_wp2_with fail
 go_ret
 exact ⟨rfl,Q3.out⟩
set_option maxHeartbeats 8000000 in
theorem aia (h:eD w lab z pv q n)(i:Nat)(hi:i<q.n)(num:Int)(e:En)(hsz:n+800000≤1000000000000):Calls Tryz.prog 27 #[.pointer (some ⟨z,0,none⟩),gZ 3 i num e] w (oo w lab z pv q n 3 i num e):=by
 have hpm:q.permits 3 (i:Int) num=true:=by unfold Qs.permits;simp;omega
 have hX:q.jh 3 (i:Int) num e=0:=by unfold Qs.jh;simp [hpm]
 have hA:q.act 3 (i:Int) num e=(q.put i (rQ (q.rs i))).note:=by unfold Qs.act;simp [hX]<;>rfl
 obtain ⟨W0,hW0⟩:∃W0,W0=w.alloc (.cells (eU 3 (i:Int) num e).toArray fE):=⟨_,rfl⟩;have hf0:Fr No w W0:=by rw [hW0];exact aj _ _
 obtain ⟨g,hg⟩:∃g,g=w.heap.size:=⟨_,rfl⟩;have hb0:Blk W0 g fE (eU 3 (i:Int) num e).toArray:=by rw [hg,hW0];exact Blk.new _ _ _
 have hac:=fun W (hf:Fr No W0 W)=>aM (hb0.fr hf id);obtain ⟨br,cr,hnc,hcm,hb1,hbl,r0,r1⟩:=h.xD;obtain ⟨nA,nc,hnv,qJ⟩:∃nA nc,w.cell? ⟨z,1,none⟩=some (.slice nA q.net.length nc)∧(q.net.length≤nc∧nc≤maxLen):=(let ⟨_,_,_,_,_,m1,_,m3,_⟩:=h.mem;let ⟨A,c,hv,_⟩:=m3.own.form;⟨A,c,by rw [←hv];exact m1.cell 1,by have:=m3.own;rw [hv] at this;exact this.cap⟩);have hzw:=h.lt z 0 h.z0;have hzz:=fun W (hf:Fr No W0 W)=>(⟨((hf0.ah hf).cell (p:=⟨z,0,none⟩) hzw fun h=>h).trans r0,((hf0.ah hf).cell (p:=⟨z,1,none⟩) hzw fun h=>h).trans hnv,nll hzw (hf0.ah hf).size⟩:W.cell? ⟨z,0,none⟩=some (.slice (some ⟨br,0,none⟩) q.n cr)∧W.cell? ⟨z,1,none⟩=some (.slice nA q.net.length nc)∧z<W.heap.size);have hgn:lab g=none:=by
  cases hlg:lab g with
  |none=>rfl
  |some j=>exact absurd (h.lt g j hlg) oy
 have hks:=fun W V (hf:Fr No W0 W) (hk:Keeps W lab z V)=>(⟨hk.2.trans (hzz W hf).1,(hk.1 ⟨g,1,none⟩ (nll hb0.lt hf.size) (.inl hgn)).trans ((hb0.fr hf fun h=>h).cell 1),(hk.1 ⟨br,i,none⟩ (nll hbl (hf0.ah hf).size) (.inr hb1)).trans (((hf0.ah hf).cell (p:=⟨br,i,none⟩) hbl fun h=>h).trans (r1 i hi))⟩:V.cell? ⟨z,0,none⟩=some (.slice (some ⟨br,0,none⟩) q.n cr)∧V.cell? ⟨g,1,none⟩=some (.int .i64 i)∧V.cell? ⟨br,i,none⟩=some (.pointer (some ⟨pv i,0,none⟩)));obtain ⟨o1,o2,o3⟩:=h.ok.each i hi;have hcall:=fun W (hf:Fr No w W)=>afm ((h.ak hf).jN i hi);have fC:=fun W W' x (hf:Fr No w W) hc=>(h.ak hf).sent (m:=n) hi (x:=(rQ (q.rs i))) (e:=x) (w' :=W') oy hc (uN _).1 (uN _).2 (by have:=o1.yu;rw [o3] at this;exact this) o1.zH;have hend:=fun W W' (hf:Fr No w W) (hq:gU W lab z pv (q.put i (rQ (q.rs i))).note (n) W')=>gU.after (n:=n+700000) hf h.lt (hq.more oy);have hi2:(i:Int)<(q.n:Int):=by omega
 have t4:decide ((i:Int)<(q.n:Int))=true:=decide_eq_true hi2;have t5:decide (i<q.n)=true:=decide_eq_true hi;obtain ⟨TH,-,hth⟩:=in_range num q.net.length;have h5:=h.ok.five;have jF:=h.ok.net;obtain ⟨z0,z1,hzl⟩:=hzz W0 (Fr.refl _ _);obtain ⟨c0,c1,c2,c3,c4,c5,c6,c7,c8,c9,c10,c11⟩:=hac W0 (Fr.refl _ _);have hgl:=hb0.lt;unfold maxLen at hcm qJ;have FF:=O hf0;have vZ:=fun W (hf:Fr No W0 W)=>nll hb0.lt hf.size;unfold oo;rw [hX,hA];obtain ⟨ek,ti,te,ce,ot,ep,fr,un,nn⟩:=e;simp only [eU] at hW0;simp only at c3 c4 c5 c6 c7 c8 c9 c10 c11;unfold gZ;clear h hpm hX hA hb0 hf0 o1 o2 o3 r0 r1 hnv hzw hb1 hbl hgn;obtain ⟨HAC,HZZ,HKS,dL,gq,dZ,HW0,HG,HTH⟩:=aap hac hzz hks hcall fC hend hW0 hg hth;clear hac hzz hks hcall fC hend hW0 hg hth;have HGL:=O vZ;clear vZ
 go_in
 go_upto_region 1 with fail
 rw [←HW0.out,←HG.out];clear HW0
 go_cut [5] (fun x wx=>x= .bool true∧Fr No W0 wx)
 case first=>
  have hw9:=Fr.refl No W0
  go_quiet (fail)
  go_wp2_with fail
  go_meet
  exact ⟨rfl,frz⟩
 obtain ⟨rfl,f1⟩:=hcut;clear c0 c1 c2 c3 c4 c5 c6 c7 c8 c9 c10 c11 z0 z1 hzl hgl;obtain ⟨c0,c1,c2,c3,c4,c5,c6,c7,c8,c9,c10,c11⟩:=HAC.out wc f1;obtain ⟨z0,z1,hzl⟩:=HZZ.out wc f1;have hgl:=HGL.out wc f1;have G1:=O f1;generalize wc=w1 at*;clear f1
 go_upto_region 2 with fail
 go_cut [6] (fun x wx=>x= .bool TH∧Fr No w1 wx)
 case first=>
  rcases HTH.out with ⟨t1,t2,t3⟩|⟨t1,t2,t3⟩|⟨t1,t3⟩
  all_goals
   have T3:=O t3;clear t3
   go_quiet (fail)
   go_wp2_with fail
   go_meet
   exact ⟨by rw [T3.out],frz⟩
 obtain ⟨rfl,f2⟩:=hcut;clear c0 c1 c2 c3 c4 c5 c6 c7 c8 c9 c10 c11 z0 z1 hzl hgl;have G2:=O (G1.out.ah f2);clear f2 G1;obtain ⟨c0,c1,c2,c3,c4,c5,c6,c7,c8,c9,c10,c11⟩:=HAC.out wc G2.out;obtain ⟨z0,z1,hzl⟩:=HZZ.out wc G2.out;have hgl:=HGL.out wc G2.out;generalize wc=w2 at*;have F2:=O (FF.out.ah G2.out);have hd:=HKS.out w2.drew w2.drew G2.out.drew ⟨fun _ _ _=>rfl,rfl⟩;have HKT:=O fun V (hk:Keeps w2.drew lab z V)=>HKS.out w2.drew V G2.out.drew hk;have mq:=O (dL.out _ F2.out.drew);have ny:=O fun W' x=>gq.out _ W' x F2.out.drew;clear c1 c2 c3 c4 c5 c6 c7 c8 c9 c10 c11 z1 HKS HAC dL gq HZZ HGL
 go_wp2_with fail
 go_region_held3 (fun V=>V.cell? ⟨z,0,none⟩=some (.slice (some ⟨br,0,none⟩) q.n cr)∧V.cell? ⟨g,1,none⟩=some (.int .i64 i)∧V.cell? ⟨br,i,none⟩=some (.pointer (some ⟨pv i,0,none⟩))) (first|exact hd|exact k1|exact k2) (first
  |(go_at_call 45;refine mq.out.mono ?_;rintro e v1 hc;obtain ⟨A1,c1',rfl,k1',hs⟩:=ny.out _ _ hc;have k1:=HKT.out _ k1';have HS2:=O hs;clear hc k1' hs)
  |(go_at_call 65;refine HS2.out.mono ?_;rintro e v2 ⟨rfl,k2',q2⟩;have k2:=HKT.out _ k2';have Q2:=O q2;clear k2' q2))
 have dP:=O (gU.noted Q2.out);clear hd HKT c0 z0 k2 mq ny HS2
 go_wp2_with fail
 refine dP.out.mono ?_;rintro e v3 ⟨rfl,q3⟩;have Q3:=O (dZ.out _ _ F2.out.drew q3);clear q3 dP dZ Q2
 go_wp2_with fail
 go_ret
 exact ⟨rfl,Q3.out⟩
end
end
section
section
variable {w w' :World}{lab lab' :Nat→Option Nat}{z n m:Nat}{pv:Nat→Nat}{q q1:Qs}{F:Nat→Prop}
set_option maxHeartbeats 8000000 in
theorem ah9 (h:eD w lab z pv q n)(i:Nat)(hi:i<q.n)(num:Int)(e:En)(hsz:n+800000≤1000000000000):Calls Tryz.prog 27 #[.pointer (some ⟨z,0,none⟩),gZ 7 i num e] w (oo w lab z pv q n 7 i num e):=by
 have hpm:q.permits 7 (i:Int) num=true:=by unfold Qs.permits;simp;omega
 have hX:q.jh 7 (i:Int) num e=0:=by unfold Qs.jh;simp [hpm]
 have hA:q.act 7 (i:Int) num e=(q.put i ((q.rs i).crash,[])).note:=by unfold Qs.act;simp [hX]
 obtain ⟨W0,hW0⟩:∃W0,W0=w.alloc (.cells (eU 7 (i:Int) num e).toArray fE):=⟨_,rfl⟩;have hf0:Fr No w W0:=by rw [hW0];exact aj _ _
 obtain ⟨g,hg⟩:∃g,g=w.heap.size:=⟨_,rfl⟩;have hb0:Blk W0 g fE (eU 7 (i:Int) num e).toArray:=by rw [hg,hW0];exact Blk.new _ _ _
 have hac:=fun W (hf:Fr No W0 W)=>aM (hb0.fr hf id);obtain ⟨br,cr,hnc,hcm,hb1,hbl,r0,r1⟩:=h.xD;obtain ⟨nA,nc,hnv,qJ⟩:∃nA nc,w.cell? ⟨z,1,none⟩=some (.slice nA q.net.length nc)∧(q.net.length≤nc∧nc≤maxLen):=(let ⟨_,_,_,_,_,m1,_,m3,_⟩:=h.mem;let ⟨A,c,hv,_⟩:=m3.own.form;⟨A,c,by rw [←hv];exact m1.cell 1,by have:=m3.own;rw [hv] at this;exact this.cap⟩);have hzw:=h.lt z 0 h.z0;have hzz:=fun W (hf:Fr No W0 W)=>(⟨((hf0.ah hf).cell (p:=⟨z,0,none⟩) hzw fun h=>h).trans r0,((hf0.ah hf).cell (p:=⟨z,1,none⟩) hzw fun h=>h).trans hnv,nll hzw (hf0.ah hf).size⟩:W.cell? ⟨z,0,none⟩=some (.slice (some ⟨br,0,none⟩) q.n cr)∧W.cell? ⟨z,1,none⟩=some (.slice nA q.net.length nc)∧z<W.heap.size);have hgn:lab g=none:=by
  cases hlg:lab g with
  |none=>rfl
  |some j=>exact absurd (h.lt g j hlg) oy
 have hks:=fun W V (hf:Fr No W0 W) (hk:Keeps W lab z V)=>(⟨hk.2.trans (hzz W hf).1,(hk.1 ⟨g,1,none⟩ (nll hb0.lt hf.size) (.inl hgn)).trans ((hb0.fr hf fun h=>h).cell 1),(hk.1 ⟨g,2,none⟩ (nll hb0.lt hf.size) (.inl hgn)).trans ((hb0.fr hf fun h=>h).cell 2),(hk.1 ⟨br,i,none⟩ (nll hbl (hf0.ah hf).size) (.inr hb1)).trans (((hf0.ah hf).cell (p:=⟨br,i,none⟩) hbl fun h=>h).trans (r1 i hi))⟩:V.cell? ⟨z,0,none⟩=some (.slice (some ⟨br,0,none⟩) q.n cr)∧V.cell? ⟨g,1,none⟩=some (.int .i64 i)∧V.cell? ⟨g,2,none⟩=some (.int .i64 num)∧V.cell? ⟨br,i,none⟩=some (.pointer (some ⟨pv i,0,none⟩)));have hcall:=fun W (hf:Fr No w W)=>yJ ((h.ak hf).jN i hi) num oy;have hdone:=fun W W' (hf:Fr No w W) (hr:bY W (part lab (10+i)) (pv i) (q.rs i).crash n W')=>(h.ak hf).crashed hi hr rfl rfl;have hend:=fun W W' (hf:Fr No w W) (hq:gU W lab z pv (q.put i ((q.rs i).crash,[])).note n W')=>gU.after (n:=n+700000) hf h.lt (hq.more oy);have hi2:(i:Int)<(q.n:Int):=by omega
 have t4:decide ((i:Int)<(q.n:Int))=true:=decide_eq_true hi2;have t5:decide (i<q.n)=true:=decide_eq_true hi;obtain ⟨TH,-,hth⟩:=in_range num q.net.length;have h5:=h.ok.five;have jF:=h.ok.net;obtain ⟨z0,z1,hzl⟩:=hzz W0 (Fr.refl _ _);obtain ⟨c0,c1,c2,c3,c4,c5,c6,c7,c8,c9,c10,c11⟩:=hac W0 (Fr.refl _ _);have hgl:=hb0.lt;unfold maxLen at hcm qJ;have FF:=O hf0;have vZ:=fun W (hf:Fr No W0 W)=>nll hb0.lt hf.size;unfold oo;rw [hX,hA];obtain ⟨ek,ti,te,ce,ot,ep,fr,un,nn⟩:=e;simp only [eU] at hW0;simp only at c3 c4 c5 c6 c7 c8 c9 c10 c11;unfold gZ;clear h hpm hX hA hb0 hf0 r0 r1 hnv hzw hb1 hbl hgn;obtain ⟨HAC,HZZ,HKS,dL,rX,dZ,HW0,HG,HTH⟩:=aap hac hzz hks hcall hdone hend hW0 hg hth;clear hac hzz hks hcall hdone hend hW0 hg hth;have HGL:=O vZ;clear vZ
 go_in
 go_upto_region 1 with fail
 rw [←HW0.out,←HG.out];clear HW0
 go_cut [5] (fun x wx=>x= .bool true∧Fr No W0 wx)
 case first=>
  have hw9:=Fr.refl No W0
  go_quiet (fail)
  go_wp2_with fail
  go_meet
  exact ⟨rfl,frz⟩
 obtain ⟨rfl,f1⟩:=hcut;clear c0 c1 c2 c3 c4 c5 c6 c7 c8 c9 c10 c11 z0 z1 hzl hgl;obtain ⟨c0,c1,c2,c3,c4,c5,c6,c7,c8,c9,c10,c11⟩:=HAC.out wc f1;obtain ⟨z0,z1,hzl⟩:=HZZ.out wc f1;have hgl:=HGL.out wc f1;have G1:=O f1;generalize wc=w1 at*;clear f1
 go_upto_region 2 with fail
 go_cut [6] (fun x wx=>x= .bool TH∧Fr No w1 wx)
 case first=>
  rcases HTH.out with ⟨t1,t2,t3⟩|⟨t1,t2,t3⟩|⟨t1,t3⟩
  all_goals
   have T3:=O t3;clear t3
   go_quiet (fail)
   go_wp2_with fail
   go_meet
   exact ⟨by rw [T3.out],frz⟩
 obtain ⟨rfl,f2⟩:=hcut;clear c0 c1 c2 c3 c4 c5 c6 c7 c8 c9 c10 c11 z0 z1 hzl hgl;have G2:=O (G1.out.ah f2);clear f2 G1;obtain ⟨c0,c1,c2,c3,c4,c5,c6,c7,c8,c9,c10,c11⟩:=HAC.out wc G2.out;obtain ⟨z0,z1,hzl⟩:=HZZ.out wc G2.out;have hgl:=HGL.out wc G2.out;generalize wc=w2 at*;have F2:=O (FF.out.ah G2.out);have hd:=HKS.out w2.drew w2.drew G2.out.drew ⟨fun _ _ _=>rfl,rfl⟩;have HKT:=O fun V (hk:Keeps w2.drew lab z V)=>HKS.out w2.drew V G2.out.drew hk;have mq:=O (dL.out _ F2.out.drew);have ny:=O fun W' =>rX.out _ W' F2.out.drew;clear c1 c2 c3 c4 c5 c6 c7 c8 c9 c10 c11 z1 HKS HAC dL rX HZZ HGL
 go_wp2_with fail
 go_region_held3 (fun V=>V.cell? ⟨z,0,none⟩=some (.slice (some ⟨br,0,none⟩) q.n cr)∧V.cell? ⟨g,1,none⟩=some (.int .i64 i)∧V.cell? ⟨g,2,none⟩=some (.int .i64 num)∧V.cell? ⟨br,i,none⟩=some (.pointer (some ⟨pv i,0,none⟩))) (first|exact hd|exact k1) (first
  |(go_at_call 48;refine mq.out.mono ?_;rintro e v1 ⟨rfl,hc⟩;obtain ⟨q2,k1'⟩:=ny.out _ hc;have k1:=HKT.out _ k1';have Q2:=O q2;clear hc k1' q2))
 have dP:=O (gU.noted Q2.out);clear hd HKT c0 z0 k1 mq ny
 go_wp2_with fail
 refine dP.out.mono ?_;rintro e v3 ⟨rfl,q3⟩;have Q3:=O (dZ.out _ _ F2.out.drew q3);clear q3 dP dZ Q2
 go_wp2_with fail
 go_ret
 exact ⟨rfl,Q3.out⟩
set_option maxHeartbeats 8000000 in
theorem afn (h:eD w lab z pv q n)(kind who num:Int)(e:En)(hpm:q.permits kind who num=false):Calls Tryz.prog 27 #[.pointer (some ⟨z,0,none⟩),gZ kind who num e] w (oo w lab z pv q n kind who num e):=by
 have hX:q.jh kind who num e=1:=by unfold Qs.jh;simp [hpm]
 have hA:q.act kind who num e=q:=by unfold Qs.act;simp [hX]
 obtain ⟨W0,hW0⟩:∃W0,W0=w.alloc (.cells (eU kind who num e).toArray fE):=⟨_,rfl⟩;have hf0:Fr No w W0:=by rw [hW0];exact aj _ _
 obtain ⟨g,hg⟩:∃g,g=w.heap.size:=⟨_,rfl⟩;have hb0:Blk W0 g fE (eU kind who num e).toArray:=by rw [hg,hW0];exact Blk.new _ _ _
 have hac:=fun W (hf:Fr No W0 W)=>aM (hb0.fr hf id);obtain ⟨br,cr,hnc,hcm,hb1,hbl,r0,r1⟩:=h.xD;obtain ⟨nA,nc,hnv,qJ⟩:∃nA nc,w.cell? ⟨z,1,none⟩=some (.slice nA q.net.length nc)∧(q.net.length≤nc∧nc≤maxLen):=(let ⟨_,_,_,_,_,m1,_,m3,_⟩:=h.mem;let ⟨A,c,hv,_⟩:=m3.own.form;⟨A,c,by rw [←hv];exact m1.cell 1,by have:=m3.own;rw [hv] at this;exact this.cap⟩);have hzw:=h.lt z 0 h.z0;have hzz:=fun W (hf:Fr No W0 W)=>(⟨((hf0.ah hf).cell (p:=⟨z,0,none⟩) hzw fun h=>h).trans r0,((hf0.ah hf).cell (p:=⟨z,1,none⟩) hzw fun h=>h).trans hnv,nll hzw (hf0.ah hf).size⟩:W.cell? ⟨z,0,none⟩=some (.slice (some ⟨br,0,none⟩) q.n cr)∧W.cell? ⟨z,1,none⟩=some (.slice nA q.net.length nc)∧z<W.heap.size);have hgn:lab g=none:=by
  cases hlg:lab g with
  |none=>rfl
  |some j=>exact absurd (h.lt g j hlg) oy
 have hend:=fun W' (hf:Fr No w W')=>((h.more (m:=n+700000) oy).still hf);obtain ⟨WH,hwe,hwh⟩:=in_range who q.n;obtain ⟨TH,hte,hth⟩:=in_range num q.net.length;have hkw:(kind=1∨kind=2∨kind=3∨kind=7)→WH=false:=fun hk=>by
  unfold Qs.permits at hpm;rw [if_pos hk,←hwe] at hpm;exact hpm
 have hkt:(kind=4∨kind=5∨kind=6)→TH=false:=fun hk=>by
  unfold Qs.permits at hpm;rw [if_neg oy,if_pos hk,←hte] at hpm;exact hpm
 have h5:=h.ok.five;have jF:=h.ok.net;obtain ⟨z0,z1,hzl⟩:=hzz W0 (Fr.refl _ _);obtain ⟨c0,c1,c2,c3,c4,c5,c6,c7,c8,c9,c10,c11⟩:=hac W0 (Fr.refl _ _);have hgl:=hb0.lt;unfold maxLen at hcm qJ;have FF:=O hf0;have vZ:=fun W (hf:Fr No W0 W)=>nll hb0.lt hf.size;unfold oo;rw [hX,hA];obtain ⟨ek,ti,te,ce,ot,ep,fr,un,nn⟩:=e;simp only [eU] at hW0;simp only at c3 c4 c5 c6 c7 c8 c9 c10 c11;unfold gZ;clear h hpm hX hA hb0 hf0 r0 r1 hnv hzw hb1 hbl hgn hwe hte;obtain ⟨HAC,HZZ,dZ,HW0,HG,HWH,HTH,HKW,HKT⟩:=aap hac hzz hend hW0 hg hwh hth hkw hkt;clear hac hzz hend hW0 hg hwh hth hkw hkt;have HGL:=O vZ;clear vZ
 go_in
 go_upto_region 1 with fail
 rw [←HW0.out,←HG.out];clear HW0
 go_cut [5] (fun x wx=>x= .bool WH∧Fr No W0 wx)
 case first=>
  rcases HWH.out with ⟨t1,t2,t3⟩|⟨t1,t2,t3⟩|⟨t1,t3⟩
  all_goals
   have T3:=O t3;clear t3
   go_quiet (fail)
   go_wp2_with fail
   go_meet
   exact ⟨by rw [T3.out],frz⟩
 obtain ⟨rfl,f1⟩:=hcut;clear c0 c1 c2 c3 c4 c5 c6 c7 c8 c9 c10 c11 z0 z1 hzl hgl;obtain ⟨c0,c1,c2,c3,c4,c5,c6,c7,c8,c9,c10,c11⟩:=HAC.out wc f1;obtain ⟨z0,z1,hzl⟩:=HZZ.out wc f1;have hgl:=HGL.out wc f1;have G1:=O f1;generalize wc=w1 at*;clear f1
 go_upto_region 2 with fail
 go_cut [6] (fun x wx=>x= .bool TH∧Fr No w1 wx)
 case first=>
  rcases HTH.out with ⟨t1,t2,t3⟩|⟨t1,t2,t3⟩|⟨t1,t3⟩
  all_goals
   have T3:=O t3;clear t3
   go_quiet (fail)
   go_wp2_with fail
   go_meet
   exact ⟨by rw [T3.out],frz⟩
 obtain ⟨rfl,f2⟩:=hcut;clear c0 c1 c2 c3 c4 c5 c6 c7 c8 c9 c10 c11 z0 z1 hzl hgl;have G2:=O (G1.out.ah f2);clear f2 G1;obtain ⟨c0,c1,c2,c3,c4,c5,c6,c7,c8,c9,c10,c11⟩:=HAC.out wc G2.out;obtain ⟨z0,z1,hzl⟩:=HZZ.out wc G2.out;have hgl:=HGL.out wc G2.out;generalize wc=w2 at*;have F2:=O (FF.out.ah G2.out);have Q3:=O (dZ.out _ F2.out);clear c1 c2 c3 c4 c5 c6 c7 c8 c9 c10 c11 z0 z1 HAC HZZ HGL dZ HWH HTH
 by_cases hk:kind=1∨kind=2∨kind=3∨kind=7
 ·rw [HKW.out hk]
  clear HKW HKT
  rcases hk with rfl|rfl|rfl|rfl
  all_goals
   go_wp2_with fail
   go_ret
   exact ⟨rfl,Q3.out⟩
 ·by_cases hk2:kind=4∨kind=5∨kind=6
  ·rw [HKT.out hk2]
   clear HKW HKT hk
   rcases hk2 with rfl|rfl|rfl
   all_goals
    go_wp2_with fail
    go_ret
    exact ⟨rfl,Q3.out⟩
  ·obtain ⟨k1,k2,k3,k7⟩:kind≠1∧kind≠2∧kind≠3∧kind≠7:=by omega
   obtain ⟨k4,k5,k6⟩:kind≠4∧kind≠5∧kind≠6:=by omega
   clear HKW HKT hk hk2
   go_wp2_with fail
   go_ret
   exact ⟨rfl,Q3.out⟩
end
end
section
section
variable {w w' :World}{lab lab' :Nat→Option Nat}{z n m:Nat}{pv:Nat→Nat}{q q1:Qs}{F:Nat→Prop}
theorem iD.to1 {F:Nat→Prop}{p:Nat}{x:Rs×List Ms}{X:Int}{e:Ending}(h:iD w F p x X n e w'):∃A c,e= .returned (.tuple #[.slice A x.2.length c,.int .i64 X])∧aH w F p x n (.returned (.slice A x.2.length c)) w' :=by
 obtain ⟨A,c,F',G,e1,h1⟩:=h;exact ⟨A,c,e1,A,c,F',G,rfl,h1⟩
set_option maxHeartbeats 8000000 in
theorem aib (h:eD w lab z pv q n)(i:Nat)(hi:i<q.n)(num:Int)(e:En)(he:e.ok)(hsz:n+800000≤1000000000000):Calls Tryz.prog 27 #[.pointer (some ⟨z,0,none⟩),gZ 2 i num e] w (oo w lab z pv q n 2 i num e):=by
 have hpm:q.permits 2 (i:Int) num=true:=by unfold Qs.permits;simp;omega
 have hX:q.jh 2 (i:Int) num e=(q.rs i).fH e:=by unfold Qs.jh;simp [hpm]
 have hA:(q.rs i).fH e=0→q.act 2 (i:Int) num e=(q.put i ((q.rs i).propose e)).note:=fun h0=>by unfold Qs.act;simp [hX,h0]
 have hA2:(q.rs i).fH e≠0→q.act 2 (i:Int) num e=q.put i ((q.rs i).propose e):=fun h0=>by rw [kK h0,yQ];unfold Qs.act;simp [hX,h0]
 obtain ⟨W0,hW0⟩:∃W0,W0=w.alloc (.cells (eU 2 (i:Int) num e).toArray fE):=⟨_,rfl⟩;have hf0:Fr No w W0:=by rw [hW0];exact aj _ _
 obtain ⟨g,hg⟩:∃g,g=w.heap.size:=⟨_,rfl⟩;have hb0:Blk W0 g fE (eU 2 (i:Int) num e).toArray:=by rw [hg,hW0];exact Blk.new _ _ _
 have hac:=fun W (hf:Fr No W0 W)=>aM (hb0.fr hf id);obtain ⟨br,cr,hnc,hcm,hb1,hbl,r0,r1⟩:=h.xD;obtain ⟨nA,nc,hnv,qJ⟩:∃nA nc,w.cell? ⟨z,1,none⟩=some (.slice nA q.net.length nc)∧(q.net.length≤nc∧nc≤maxLen):=(let ⟨_,_,_,_,_,m1,_,m3,_⟩:=h.mem;let ⟨A,c,hv,_⟩:=m3.own.form;⟨A,c,by rw [←hv];exact m1.cell 1,by have:=m3.own;rw [hv] at this;exact this.cap⟩);have hzw:=h.lt z 0 h.z0;have hzz:=fun W (hf:Fr No W0 W)=>(⟨((hf0.ah hf).cell (p:=⟨z,0,none⟩) hzw fun h=>h).trans r0,((hf0.ah hf).cell (p:=⟨z,1,none⟩) hzw fun h=>h).trans hnv,nll hzw (hf0.ah hf).size⟩:W.cell? ⟨z,0,none⟩=some (.slice (some ⟨br,0,none⟩) q.n cr)∧W.cell? ⟨z,1,none⟩=some (.slice nA q.net.length nc)∧z<W.heap.size);have hgn:lab g=none:=by
  cases hlg:lab g with
  |none=>rfl
  |some j=>exact absurd (h.lt g j hlg) oy
 have hgk:=fun W V (hf:Fr No W0 W) (hk:Keeps W lab z V) (o:Nat)=>hk.1 ⟨g,o,none⟩ (nll hb0.lt hf.size) (.inl hgn);have hks:=fun W V (hf:Fr No W0 W) (hk:Keeps W lab z V)=>(let ⟨_,a1,_,a3,a4,a5,a6,a7,a8,a9,a10,a11⟩:=aM (hb0.fr hf id);⟨hk.2.trans (hzz W hf).1,(hgk W V hf hk 1).trans a1,(hgk W V hf hk 3).trans a3,(hgk W V hf hk 4).trans a4,(hgk W V hf hk 5).trans a5,(hgk W V hf hk 6).trans a6,(hgk W V hf hk 7).trans a7,(hgk W V hf hk 8).trans a8,(hgk W V hf hk 9).trans a9,(hgk W V hf hk 10).trans a10,(hgk W V hf hk 11).trans a11,(hk.1 ⟨br,i,none⟩ (nll hbl (hf0.ah hf).size) (.inr hb1)).trans (((hf0.ah hf).cell (p:=⟨br,i,none⟩) hbl fun h=>h).trans (r1 i hi))⟩:V.cell? ⟨z,0,none⟩=some (.slice (some ⟨br,0,none⟩) q.n cr)∧V.cell? ⟨g,1,none⟩=some (.int .i64 i)∧V.cell? ⟨g,3,none⟩=some (.int .i64 e.kind)∧V.cell? ⟨g,4,none⟩=some (.int .i64 e.tick)∧V.cell? ⟨g,5,none⟩=some (.int .i64 e.aS)∧V.cell? ⟨g,6,none⟩=some (.int .i64 e.cell)∧V.cell? ⟨g,7,none⟩=some (.int .i64 e.other)∧V.cell? ⟨g,8,none⟩=some (.int .i64 e.epoch)∧V.cell? ⟨g,9,none⟩=some (.int .i64 e.from_)∧V.cell? ⟨g,10,none⟩=some (.int .i64 e.bA)∧V.cell? ⟨g,11,none⟩=some (.int .i64 e.n)∧V.cell? ⟨br,i,none⟩=some (.pointer (some ⟨pv i,0,none⟩)));obtain ⟨o1,o2,o3⟩:=h.ok.each i hi;have hcall:=fun W (hf:Fr No w W)=>sG ((h.ak hf).jN i hi) e he oy;have fC:=fun W W' x (hf:Fr No w W) hc=>(h.ak hf).sent (m:=n+128) hi (x:=(q.rs i).propose e) (e:=x) (w' :=W') oy hc (fQ _ e).1 (fQ _ e).2 (by have:=o1.nJ e he;rw [o3] at this;exact this) (o1.qj e he)
 have hturn:=fun W W' x (hf:Fr No w W) hc (hX0:(q.rs i).fH e≠0)=>(let ⟨_,_,lab',_,_,_,b2,_,_,b5,b6⟩:=(h.ak hf).turned (m:=n+128) hi (x:=(q.rs i).propose e) (e:=x) (w' :=W') oy hc (fQ _ e).1 (fQ _ e).2;⟨lab',by rw [kK hX0] at b2 ⊢;exact b2,b5,b6.mono fun b hb=>by
  have hb:lab b=some (10+i):=hb;rw [hb];simp⟩:gU W lab z pv (q.put i ((q.rs i).propose e)) (n+128) W')
 have hend:=fun W W' qq (hf:Fr No w W) (hq:gU W lab z pv qq (n+128) W')=>gU.after (n:=n+700000) hf h.lt (hq.more oy);have hi2:(i:Int)<(q.n:Int):=by omega
 have t4:decide ((i:Int)<(q.n:Int))=true:=decide_eq_true hi2;have t5:decide (i<q.n)=true:=decide_eq_true hi;obtain ⟨TH,-,hth⟩:=in_range num q.net.length;have h5:=h.ok.five;have jF:=h.ok.net;obtain ⟨z0,z1,hzl⟩:=hzz W0 (Fr.refl _ _);obtain ⟨c0,c1,c2,c3,c4,c5,c6,c7,c8,c9,c10,c11⟩:=hac W0 (Fr.refl _ _);have hgl:=hb0.lt;unfold maxLen at hcm qJ;have FF:=O hf0;have vZ:=fun W (hf:Fr No W0 W)=>nll hb0.lt hf.size;unfold oo;rw [hX];obtain ⟨Y,hY⟩:∃Y,Y=(q.rs i).propose e:=⟨_,rfl⟩;obtain ⟨XX,hXX⟩:∃XX,XX=(q.rs i).fH e:=⟨_,rfl⟩;obtain ⟨AQ,hAQ⟩:∃AQ,AQ=q.act 2 (i:Int) num e:=⟨_,rfl⟩;rw [←hAQ,←hXX];rw [←hY,←hXX] at hcall;rw [←hAQ,←hXX,←hY] at hA hA2;simp only [←hY,←hXX] at fC hturn;obtain ⟨ek,ti,te,ce,ot,ep,fr,un,nn⟩:=e;simp only [eU] at hW0;simp only at c3 c4 c5 c6 c7 c8 c9 c10 c11 hks;unfold gZ;unfold En.v at hcall;clear h hpm hX hb0 hf0 o1 o2 o3 hgk hXX hY hAQ he r0 r1 hnv hzw hb1 hbl hgn;obtain ⟨HAC,HZZ,HKS,dL,gq,aev,dZ,HW0,HG,HA,HA2,HTH⟩:=gY hac hzz hks hcall fC hturn hend hW0 hg hA hA2 hth;clear hac hzz hks hcall fC hturn hend hW0 hg hA hA2 hth;have HGL:=O vZ;clear vZ
 go_in
 go_upto_region 1 with fail
 rw [←HW0.out,←HG.out];clear HW0
 go_cut [5] (fun x wx=>x= .bool true∧Fr No W0 wx)
 case first=>
  have hw9:=Fr.refl No W0
  go_quiet (fail)
  go_wp2_with fail
  go_meet
  exact ⟨rfl,frz⟩
 obtain ⟨rfl,f1⟩:=hcut;clear c0 c1 c2 c3 c4 c5 c6 c7 c8 c9 c10 c11 z0 z1 hzl hgl;obtain ⟨c0,c1,c2,c3,c4,c5,c6,c7,c8,c9,c10,c11⟩:=HAC.out wc f1;obtain ⟨z0,z1,hzl⟩:=HZZ.out wc f1;have hgl:=HGL.out wc f1;have G1:=O f1;generalize wc=w1 at*;clear f1
 go_upto_region 2 with fail
 go_cut [6] (fun x wx=>x= .bool TH∧Fr No w1 wx)
 case first=>
  rcases HTH.out with ⟨t1,t2,t3⟩|⟨t1,t2,t3⟩|⟨t1,t3⟩
  all_goals
   have T3:=O t3;clear t3
   go_quiet (fail)
   go_wp2_with fail
   go_meet
   exact ⟨by rw [T3.out],frz⟩
 obtain ⟨rfl,f2⟩:=hcut;clear c0 c1 c2 c3 c4 c5 c6 c7 c8 c9 c10 c11 z0 z1 hzl hgl;have G2:=O (G1.out.ah f2);clear f2 G1;obtain ⟨c0,c1,c2,c3,c4,c5,c6,c7,c8,c9,c10,c11⟩:=HAC.out wc G2.out;obtain ⟨z0,z1,hzl⟩:=HZZ.out wc G2.out;have hgl:=HGL.out wc G2.out;generalize wc=w2 at*;have F2:=O (FF.out.ah G2.out);have hd:=HKS.out w2.drew w2.drew G2.out.drew ⟨fun _ _ _=>rfl,rfl⟩;have HKT:=O fun V (hk:Keeps w2.drew lab z V)=>HKS.out w2.drew V G2.out.drew hk;have mq:=O (dL.out _ F2.out.drew);have ny:=O fun W' x=>gq.out _ W' x F2.out.drew;have aix:=O fun W' x=>aev.out _ W' x F2.out.drew;clear c1 c2 c3 c4 c5 c6 c7 c8 c9 c10 c11 z1 HKS HAC dL gq aev HZZ HGL
 go_wp2_with fail
 go_region_held3 (fun V=>V.cell? ⟨z,0,none⟩=some (.slice (some ⟨br,0,none⟩) q.n cr)∧V.cell? ⟨g,1,none⟩=some (.int .i64 i)∧V.cell? ⟨g,3,none⟩=some (.int .i64 ek)∧V.cell? ⟨g,4,none⟩=some (.int .i64 ti)∧V.cell? ⟨g,5,none⟩=some (.int .i64 te)∧V.cell? ⟨g,6,none⟩=some (.int .i64 ce)∧V.cell? ⟨g,7,none⟩=some (.int .i64 ot)∧V.cell? ⟨g,8,none⟩=some (.int .i64 ep)∧V.cell? ⟨g,9,none⟩=some (.int .i64 fr)∧V.cell? ⟨g,10,none⟩=some (.int .i64 un)∧V.cell? ⟨g,11,none⟩=some (.int .i64 nn)∧V.cell? ⟨br,i,none⟩=some (.pointer (some ⟨pv i,0,none⟩))) (first|exact hd|exact k1) (first
  |(go_at_call 43;refine mq.out.mono ?_;rintro e v1 hc;obtain ⟨A1,c1',rfl,hc1⟩:=iD.to1 hc;obtain ⟨A2,c2',e2,k1',hs⟩:=ny.out _ _ hc1;injection e2 with e2;injection e2 with q1 q2 q3;subst q1 q3;have k1:=HKT.out _ k1';have HS2:=O hs;have HT2:=O (aix.out _ _ hc1);clear hc hc1 k1' hs q2))
 by_cases hx0:XX=0
 ·have HAA:=O (HA.out hx0)
  subst hx0;clear hd HKT c0 z0 k1 mq ny aix HT2 HA HA2
  go_wp2_with fail
  refine HS2.out.mono ?_;rintro e v2 ⟨rfl,-,q2⟩;have dP:=O (gU.noted q2);clear q2 HS2
  go_wp2_with fail
  refine dP.out.mono ?_;rintro e v3 ⟨rfl,q3⟩;have Q3:=O (dZ.out _ _ _ F2.out.drew q3);clear q3 dP dZ
  go_wp2_with fail
  go_ret
  exact ⟨rfl,by rw [HAA.out];exact Q3.out⟩
 ·have hx1:decide (XX=0)=false:=by simpa using hx0
  obtain ⟨HAA,Q3⟩:=aO (HA2.out hx0) (dZ.out _ _ _ F2.out.drew (HT2.out hx0));clear hd HKT c0 z0 k1 mq ny aix HT2 HA HA2 HS2 dZ
  go_wp2_with fail
  go_ret
  exact ⟨rfl,by rw [HAA.out];exact Q3.out⟩
end
end
section
section
variable {w w' :World}{lab lab' :Nat→Option Nat}{z n m:Nat}{pv:Nat→Nat}{q q1:Qs}{F:Nat→Prop}
theorem eD.ak3 (h:eD w lab z pv q n):Calls Tryz.prog 68 #[.pointer (some ⟨z,0,none⟩)] w fun e2 w2=>e2= .returned (.tuple #[])∧gU w lab z pv q.note (n+700000) w2:=
 h.self.noted.mono fun e w' ⟨he,ht⟩=>⟨he,ht.more oy⟩
theorem gU.ak2 {y:Ms}(h:gU w lab z pv (q.give y).note m w')(hok:lu q)(hy:fI q.n y):Calls Tryz.prog 68 #[.pointer (some ⟨z,0,none⟩)] w' fun e2 w2=>e2= .returned (.tuple #[])∧gU w lab z pv (q.give y).note m w2:=
 h.noted.mono fun e w' ⟨he,ht⟩=>⟨he,by rw [ac8 (hok.give hy)] at ht;exact ht⟩
set_option maxHeartbeats 8000000 in
theorem xC (h:eD w lab z pv q n)(K who:Int)(hk:K=4∨K=5∨K=6)(i:Nat)(hi:i<q.net.length)(e:En)(hsz:n+800000≤1000000000000):Calls Tryz.prog 27 #[.pointer (some ⟨z,0,none⟩),gZ K who i e] w (oo w lab z pv q n K who i e):=by
 have hpm:q.permits K who (i:Int)=true:=by unfold Qs.permits;rw [if_neg oy,if_pos hk];simp;omega
 have hX:q.jh K who (i:Int) e=0:=by unfold Qs.jh;rw [hpm,if_neg (by simp),if_neg oy]
 obtain ⟨y,hm⟩:∃y,q.net[i]? =some y:=⟨_,List.getElem?_eq_getElem hi⟩;have hat:q.at_ (i:Int)=y:=by unfold Qs.at_;rw [Int.toNat_natCast,hm];rfl
 have nS:=h.ok.msgs y (List.mem_of_getElem? hm);obtain ⟨AQ,hAQ⟩:∃AQ,AQ=q.act K who (i:Int) e:=⟨_,rfl⟩;have hA4:K=4→AQ=((q.remove i).give y).note:=fun e4=>by subst e4;rw [hAQ];unfold Qs.act;simp [hX,hat]
 have hA5:K=5→AQ=(q.give y).note:=fun e4=>by subst e4;rw [hAQ];unfold Qs.act;simp [hX,hat]
 have hA6:K=6→AQ=(q.remove i).note:=fun e4=>by subst e4;rw [hAQ];unfold Qs.act;simp [hX]
 obtain ⟨W0,hW0⟩:∃W0,W0=w.alloc (.cells (eU K who (i:Int) e).toArray fE):=⟨_,rfl⟩;have hf0:Fr No w W0:=by rw [hW0];exact aj _ _
 obtain ⟨g,hg⟩:∃g,g=w.heap.size:=⟨_,rfl⟩;have hb0:Blk W0 g fE (eU K who (i:Int) e).toArray:=by rw [hg,hW0];exact Blk.new _ _ _
 have hac:=fun W (hf:Fr No W0 W)=>aM (hb0.fr hf id);obtain ⟨br,cr,hnc,hcm,hb1,hbl,r0,r1⟩:=h.xD;obtain ⟨nA,nc,hnv,qJ⟩:∃nA nc,w.cell? ⟨z,1,none⟩=some (.slice nA q.net.length nc)∧(q.net.length≤nc∧nc≤maxLen):=(let ⟨_,_,_,_,_,m1,_,m3,_⟩:=h.mem;let ⟨A,c,hv,_⟩:=m3.own.form;⟨A,c,by rw [←hv];exact m1.cell 1,by have:=m3.own;rw [hv] at this;exact this.cap⟩);have hzw:=h.lt z 0 h.z0;have hzz:=fun W (hf:Fr No W0 W)=>(⟨((hf0.ah hf).cell (p:=⟨z,0,none⟩) hzw fun h=>h).trans r0,((hf0.ah hf).cell (p:=⟨z,1,none⟩) hzw fun h=>h).trans hnv,nll hzw (hf0.ah hf).size⟩:W.cell? ⟨z,0,none⟩=some (.slice (some ⟨br,0,none⟩) q.n cr)∧W.cell? ⟨z,1,none⟩=some (.slice nA q.net.length nc)∧z<W.heap.size);have hgn:lab g=none:=by
  cases hlg:lab g with
  |none=>rfl
  |some j=>exact absurd (h.lt g j hlg) oy
 obtain ⟨Ar,cr',NV,DV,vs,m1,m2,m3,m4⟩:=h.mem;obtain ⟨An,cn,rfl,-⟩:=m3.own.form;have hcn:=m3.own.cap;obtain ⟨bl,x,rfl,ar2,-,-,hxe,e0,e1,e2,e3,e4,e5,e6,e7,e8⟩:=m3.at_ hm;obtain ⟨Ax,cx,rfl⟩:∃Ax cx,x= .slice Ax y.es.length cx:=(let ⟨A,c,e,_⟩:=hxe;⟨A,c,e⟩);have hcb:=fun V (hf:Fr No W0 V) (o:Nat)=>(hf0.ah hf).cell (p:=⟨bl,o,none⟩) ar2 fun h=>h;obtain ⟨YY,hYY⟩:∃YY,YY=y:=⟨_,rfl⟩;rw [←hYY] at hA4 hA5 nS;obtain ⟨kd,mf,mto,mt,ix,pr,cm,ok,es⟩:=y;simp only at e0 e1 e2 e3 e4 e5 e6 e7 e8 hxe;have hsa:=fun V (hf:Fr No W0 V)=>(⟨((m1.fr hf0 id).fr hf id).cell 1,(let ⟨_,_,a2,_⟩:=hac V hf;a2),(hcb V hf _).trans e0,(hcb V hf _).trans e1,(hcb V hf _).trans e2,(hcb V hf _).trans e3,(hcb V hf _).trans e4,(hcb V hf _).trans e5,(hcb V hf _).trans e6,(hcb V hf _).trans e7,(hcb V hf _).trans e8⟩:V.cell? ⟨z,1,none⟩=some (.slice (some ⟨bl,0,none⟩) q.net.length cn)∧V.cell? ⟨g,2,none⟩=some (.int .i64 i)∧V.cell? ⟨bl,i*9,none⟩=some (.int .i64 kd)∧V.cell? ⟨bl,i*9+1,none⟩=some (.int .i64 mf)∧V.cell? ⟨bl,i*9+2,none⟩=some (.int .i64 mto)∧V.cell? ⟨bl,i*9+3,none⟩=some (.int .i64 mt)∧V.cell? ⟨bl,i*9+4,none⟩=some (.int .i64 ix)∧V.cell? ⟨bl,i*9+5,none⟩=some (.int .i64 pr)∧V.cell? ⟨bl,i*9+6,none⟩=some (.int .i64 cm)∧V.cell? ⟨bl,i*9+7,none⟩=some (.bool ok)∧V.cell? ⟨bl,i*9+8,none⟩=some (.slice Ax es.length cx));have jD:=fun W (hf:Fr No w W)=>ab6 (h.ak hf) i hi;have hgo:=fun W3 V g7 (hf:Fr No w W3) (hfg:Fr No W0 W3) (hg7:lab g7=none) (hbm:Blk W3 g7 TMs #[.int .i64 kd,.int .i64 mf,.int .i64 mto,.int .i64 mt,.int .i64 ix,.int .i64 pr,.int .i64 cm,.bool ok,.slice Ax es.length cx]) aZ (Q:Qs) (hq:eD V aZ z pv Q n) (hQ:Q.n=q.n) (ho:∀b,b<W3.heap.size→aZ b=lab b) (hfr:Fr (fun b=>lab b=some 0) W3 V)=>(⟨hbm.fr hfr (fun hh=>by rw [hg7] at hh;cases hh),(hb0.fr hfg id).fr hfr (fun hh=>by rw [hgn] at hh;cases hh),hq.ak3,(by
  have hE:Ent V (part aZ 3) (.slice Ax es.length cx) es:=(((hxe.ak hf).lt).fr hfr fun b hb hh=>aG (show (3:Nat)≠0 by omega) b hb.1 hh).mono fun b hb=>by
   show aZ b=some 3
   rw [ho b hb.2];exact hb.1
  have hm2:fI Q.n ⟨kd,mf,mto,mt,ix,pr,cm,ok,es⟩:=by rw [hQ,←hYY];exact nS
  exact (zU hq ⟨kd,mf,mto,mt,ix,pr,cm,ok,es⟩ hm2 Ax cx hE oy).mono fun e w' ⟨he,ht⟩=>⟨he,ht.ak2 hq.ok hm2⟩),fun V' qq (hq2:gU V aZ z pv qq (n+700000) V')=>gU.after (n:=n+700000) hf h.lt (hq2.from ho (hfr.mono fun b hb=>by rw [hb];simp))⟩:Blk V g7 TMs #[.int .i64 kd,.int .i64 mf,.int .i64 mto,.int .i64 mt,.int .i64 ix,.int .i64 pr,.int .i64 cm,.bool ok,.slice Ax es.length cx]∧Blk V g fE (eU K who (i:Int) e).toArray∧Calls Tryz.prog 68 #[.pointer (some ⟨z,0,none⟩)] V (fun e w' =>e= .returned (.tuple #[])∧gU V aZ z pv Q.note (n+700000) w')∧Calls Tryz.prog 67 #[.pointer (some ⟨z,0,none⟩),Ms.v ⟨kd,mf,mto,mt,ix,pr,cm,ok,es⟩ (.slice Ax es.length cx)] V (fun e w' =>e= .returned (.tuple #[])∧Calls Tryz.prog 68 #[.pointer (some ⟨z,0,none⟩)] w' (fun e2 w2=>e2= .returned (.tuple #[])∧gU V aZ z pv (Q.give ⟨kd,mf,mto,mt,ix,pr,cm,ok,es⟩).note (n+700000) w2))∧∀V' qq,gU V aZ z pv qq (n+700000) V'→gU w lab z pv qq (n+700000) V')
 have hsame:=fun W (hf:Fr No w W)=>h.ak hf;have hi2:(i:Int)<(q.net.length:Int):=by omega
 have t4:decide ((i:Int)<(q.net.length:Int))=true:=decide_eq_true hi2;have t5:decide (i<q.net.length)=true:=decide_eq_true hi;have hfresh:∀b,w.heap.size≤b→lab b=none:=fun b hb=>by
  cases hlg:lab b with
  |none=>rfl
  |some j=>exact absurd (h.lt b j hlg) oy
 obtain ⟨WH,-,hwh⟩:=in_range who q.n;have h5:=h.ok.five;have jF:=h.ok.net;obtain ⟨z0,z1,hzl⟩:=hzz W0 (Fr.refl _ _);obtain ⟨c0,c1,c2,c3,c4,c5,c6,c7,c8,c9,c10,c11⟩:=hac W0 (Fr.refl _ _);have hgl:=hb0.lt;unfold maxLen at hcm qJ;have FF:=O hf0;have vZ:=fun W (hf:Fr No W0 W)=>nll hb0.lt hf.size;unfold maxLen at hcn;unfold oo;rw [hX,←hAQ];rw [hYY] at hA4 hA5;obtain ⟨ek,ti,te,ce,ot,ep,fr,un,nn⟩:=e;simp only [eU] at hW0;simp only at c3 c4 c5 c6 c7 c8 c9 c10 c11;unfold gZ;unfold Ms.v at hgo;simp only [eU] at hgo;clear h hpm hX hb0 hf0 r0 r1 hnv hzw hb1 hbl hgn m1 m2 m3 m4 e0 e1 e2 e3 e4 e5 e6 e7 e8 hxe hm hat nS hcb hYY hAQ;clear YY;obtain ⟨HAC,HZZ,HSA,lW,HGO,kG,HW0,HG,HWH,kH⟩:=lH hac hzz hsa jD hgo hsame hW0 hg hwh hfresh;clear hac hzz hsa jD hgo hsame hW0 hg hwh hfresh;obtain ⟨HGL,HKK,HA4,HA5,HA6⟩:=jr vZ hk hA4 hA5 hA6;clear vZ hk hA4 hA5 hA6
 go_in
 go_upto_region 1 with fail
 rw [←HW0.out,←HG.out];clear HW0
 go_cut [5] (fun x wx=>x= .bool WH∧Fr No W0 wx)
 case first=>
  rcases HWH.out with ⟨t1,t2,t3⟩|⟨t1,t2,t3⟩|⟨t1,t3⟩
  all_goals
   have T3:=O t3;clear t3
   go_quiet (fail)
   go_wp2_with fail
   go_meet
   exact ⟨by rw [T3.out],frz⟩
 obtain ⟨rfl,f1⟩:=hcut;clear c0 c1 c2 c3 c4 c5 c6 c7 c8 c9 c10 c11 z0 z1 hzl hgl;obtain ⟨c0,c1,c2,c3,c4,c5,c6,c7,c8,c9,c10,c11⟩:=HAC.out wc f1;obtain ⟨z0,z1,hzl⟩:=HZZ.out wc f1;have hgl:=HGL.out wc f1;have G1:=O f1;generalize wc=w1 at*;clear f1
 go_upto_region 2 with fail
 go_cut [6] (fun x wx=>x= .bool true∧Fr No w1 wx)
 case first=>
  have hw9:=Fr.refl No w1
  go_quiet (fail)
  go_wp2_with fail
  go_meet
  exact ⟨rfl,frz⟩
 obtain ⟨rfl,f2⟩:=hcut;clear c0 c1 c2 c3 c4 c5 c6 c7 c8 c9 c10 c11 z0 z1 hzl hgl;have G2:=O (G1.out.ah f2);clear f2 G1;obtain ⟨c0,c1,c2,c3,c4,c5,c6,c7,c8,c9,c10,c11⟩:=HAC.out wc G2.out;obtain ⟨z0,z1,hzl⟩:=HZZ.out wc G2.out;have hgl:=HGL.out wc G2.out;generalize wc=w2 at*;have F2:=O (FF.out.ah G2.out);have hd:=HSA.out w2.drew G2.out.drew;have HKT:=O fun V (hf:Fr No w2 V)=>HSA.out V (G2.out.ah hf);have ahq:=O fun W (hf:Fr No w2 W)=>HAC.out W (G2.out.ah hf);clear c1 c2 c3 c4 c5 c6 c7 c8 c9 c10 c11 z0 HSA HAC HZZ HGL HWH
 rcases HKK.out with rfl|rfl|rfl
 all_goals
  go_wp2_with fail
  go_region_held3 (fun V=>V.cell? ⟨z,1,none⟩=some (.slice (some ⟨bl,0,none⟩) q.net.length cn)∧V.cell? ⟨g,2,none⟩=some (.int .i64 i)∧V.cell? ⟨bl,i*9,none⟩=some (.int .i64 kd)∧V.cell? ⟨bl,i*9+1,none⟩=some (.int .i64 mf)∧V.cell? ⟨bl,i*9+2,none⟩=some (.int .i64 mto)∧V.cell? ⟨bl,i*9+3,none⟩=some (.int .i64 mt)∧V.cell? ⟨bl,i*9+4,none⟩=some (.int .i64 ix)∧V.cell? ⟨bl,i*9+5,none⟩=some (.int .i64 pr)∧V.cell? ⟨bl,i*9+6,none⟩=some (.int .i64 cm)∧V.cell? ⟨bl,i*9+7,none⟩=some (.bool ok)∧V.cell? ⟨bl,i*9+8,none⟩=some (.slice Ax es.length cx)) (first|exact hd|exact HKT.out _ frz) (first|fail)
  have hsz2:=F2.out.size;obtain ⟨W3,hW3⟩:∃W3,W3=(w2.alloc (.cells #[.int .i64 kd,.int .i64 mf,.int .i64 mto,.int .i64 mt,.int .i64 ix,.int .i64 pr,.int .i64 cm,.bool ok,.slice Ax es.length cx] TMs)).drew:=⟨_,rfl⟩;obtain ⟨g7,hg7⟩:∃g7,g7=w2.heap.size:=⟨_,rfl⟩;rw [←hW3,←hg7];have f23:Fr No w2 W3:=by rw [hW3];exact (aj _ _).drew
  obtain ⟨F3,G3⟩:=aO (F2.out.ah f23) (G2.out.ah f23);have hbm:Blk W3 g7 TMs #[.int .i64 kd,.int .i64 mf,.int .i64 mto,.int .i64 mt,.int .i64 ix,.int .i64 pr,.int .i64 cm,.bool ok,.slice Ax es.length cx]:=by rw [hW3,hg7];exact (Blk.new _ _ _).fr (Fr.refl No _).drew fun h=>h
  have hl7:=O (kH.out g7 (by rw [hg7];exact hsz2));clear c0 z1;obtain ⟨c0,-,c2,-⟩:=ahq.out W3 f23;have hz3:z<W3.heap.size:=nll hzl f23.size;have hg3:g<W3.heap.size:=nll hgl f23.size;have BM:=O hbm;have aoc:=hbm.lt;clear hd HKT ahq hW3 hg7 hbm f23 kH hzl hgl HKK
 ·go_wp2_with fail
  refine (lW.out _ F3.out).mono ?_;rintro e v2 ⟨rfl,aZ,a1,a2,-,a4⟩;obtain ⟨bm,gb,hno,hde,hen⟩:=HGO.out W3 v2 g7 F3.out G3.out hl7.out BM.out aZ (q.remove i) a1 rfl a2 a4;clear a1 a2 a4;clear c0 c2;obtain ⟨c0,-,c2,-⟩:=aM (kind:=4) (who:=who) (num:=(i:Int)) (e:=⟨ek,ti,te,ce,ot,ep,fr,un,nn⟩) gb;obtain ⟨k0,k1,k2,k3,k4,k5,k6,k7,k8⟩:=aL (m:=⟨kd,mf,mto,mt,ix,pr,cm,ok,es⟩) bm;simp only at k0 k1 k2 k3 k4 k5 k6 k7 k8;have hz4:=bm.lt;have hz5:=gb.lt;obtain ⟨HNO,HDE,HEN⟩:=bP hno hde hen;clear hno hde hen;clear bm gb lW HGO kG hz3 hg3 aoc
  go_wp2_with fail
  refine HDE.out.mono ?_;rintro e v4 ⟨rfl,hn4⟩;have HN4:=O hn4;clear hn4;clear c0 c2 k0 k1 k2 k3 k4 k5 k6 k7 k8 HDE HNO
  go_wp2_with fail
  refine HN4.out.mono ?_;rintro e v5 ⟨rfl,q5⟩;have Q5:=O (HEN.out _ _ q5);clear q5 HN4 HEN
  go_wp2_with fail
  go_ret
  exact ⟨rfl,by rw [HA4.out (by simp)];exact Q5.out⟩
 ·obtain ⟨bm,gb,hno,hde,hen⟩:=HGO.out W3 W3 g7 F3.out G3.out hl7.out BM.out lab q (kG.out _ F3.out) rfl (fun _ _=>rfl) (Fr.refl _ _)
  clear c0 c2;obtain ⟨c0,-,c2,-⟩:=aM (kind:=5) (who:=who) (num:=(i:Int)) (e:=⟨ek,ti,te,ce,ot,ep,fr,un,nn⟩) gb;obtain ⟨k0,k1,k2,k3,k4,k5,k6,k7,k8⟩:=aL (m:=⟨kd,mf,mto,mt,ix,pr,cm,ok,es⟩) bm;simp only at k0 k1 k2 k3 k4 k5 k6 k7 k8;have hz4:=bm.lt;have hz5:=gb.lt;obtain ⟨HNO,HDE,HEN⟩:=bP hno hde hen;clear hno hde hen;clear bm gb lW HGO kG hz3 hg3 aoc
  go_wp2_with fail
  refine HDE.out.mono ?_;rintro e v4 ⟨rfl,hn4⟩;have HN4:=O hn4;clear hn4;clear c0 c2 k0 k1 k2 k3 k4 k5 k6 k7 k8 HDE HNO
  go_wp2_with fail
  refine HN4.out.mono ?_;rintro e v5 ⟨rfl,q5⟩;have Q5:=O (HEN.out _ _ q5);clear q5 HN4 HEN
  go_wp2_with fail
  go_ret
  exact ⟨rfl,by rw [HA5.out (by simp)];exact Q5.out⟩
 ·go_wp2_with fail
  refine (lW.out _ F3.out).mono ?_;rintro e v2 ⟨rfl,aZ,a1,a2,-,a4⟩;obtain ⟨bm,gb,hno,hde,hen⟩:=HGO.out W3 v2 g7 F3.out G3.out hl7.out BM.out aZ (q.remove i) a1 rfl a2 a4;clear a1 a2 a4;clear c0 c2;obtain ⟨c0,-,c2,-⟩:=aM (kind:=6) (who:=who) (num:=(i:Int)) (e:=⟨ek,ti,te,ce,ot,ep,fr,un,nn⟩) gb;obtain ⟨k0,k1,k2,k3,k4,k5,k6,k7,k8⟩:=aL (m:=⟨kd,mf,mto,mt,ix,pr,cm,ok,es⟩) bm;simp only at k0 k1 k2 k3 k4 k5 k6 k7 k8;have hz4:=bm.lt;have hz5:=gb.lt;obtain ⟨HNO,HDE,HEN⟩:=bP hno hde hen;clear hno hde hen;clear bm gb lW HGO kG hz3 hg3 aoc;clear k0 k1 k2 k3 k4 k5 k6 k7 k8 HDE
  go_wp2_with fail
  refine HNO.out.mono ?_;rintro e v5 ⟨rfl,q5⟩;have Q5:=O (HEN.out _ _ q5);clear q5 HNO HEN
  go_wp2_with fail
  go_ret
  exact ⟨rfl,by rw [HA6.out (by simp)];exact Q5.out⟩
end
end
section
section
variable {w w' :World}{lab lab' :Nat→Option Nat}{z n m:Nat}{pv:Nat→Nat}{q q1:Qs}{F:Nat→Prop}
theorem ani (h:eD w lab z pv q n)(kind who num:Int)(e:En)(he:e.ok)(hsz:n+800000≤1000000000000):Calls Tryz.prog 27 #[.pointer (some ⟨z,0,none⟩),gZ kind who num e] w (oo w lab z pv q n kind who num e):=by
 cases hp:q.permits kind who num with
 |false=>exact afn h kind who num e hp
 |true=>
  rcases jW hp with hk|hk
  ·obtain ⟨h0,h1⟩:=mg hp hk
   obtain ⟨i,rfl⟩:=Int.eq_ofNat_of_zero_le h0
   rcases hk with rfl|rfl|rfl|rfl
   ·exact aic h i oy num e hsz
   ·exact aib h i oy num e he hsz
   ·exact aia h i oy num e hsz
   ·exact ah9 h i oy num e hsz
  ·obtain ⟨h0,h1⟩:=jA hp hk
   obtain ⟨i,rfl⟩:=Int.eq_ofNat_of_zero_le h0
   rcases hk with rfl|rfl|rfl
   ·exact xC h 4 who (.inl rfl) i oy e hsz
   ·exact xC h 5 who (.inr (.inl rfl)) i oy e hsz
   ·exact xC h 6 who (.inr (.inr rfl)) i oy e hsz
end
end
section
def PQ (w0:World)(g zp zr:Nat)(q1:Qs)(n:Nat)(q2:Qs)(m:Nat)(W:World):Prop:=
 ∃lab pv dG pv2,QAt W lab zp pv q1 n∧eD W dG zr pv2 q2 m∧(∀b,lab b≠none→dG b=none)∧(∀b j,lab b=some j→w0.heap.size≤b)∧(∀b j,dG b=some j→w0.heap.size≤b)∧lab g=none∧dG g=none∧Fr No w0 W
section
variable {w0 W W' W1 W2:World}{g g' zp zr n m:Nat}{q q1 q2:Qs}
theorem PQ.fr (h:PQ w0 g zp zr q1 n q2 m W):Fr No w0 W:=let ⟨_,_,_,_,_,_,_,_,_,_,_,hf⟩:=h;hf
theorem PQ.ak (h:PQ w0 g zp zr q1 n q2 m W)(hf:Fr No W W'):PQ w0 g zp zr q1 n q2 m W' :=by
 obtain ⟨lab,pv,dG,pv2,h1,h2,h3,h4,h5,h6,h7,h8⟩:=h;exact ⟨lab,pv,dG,pv2,h1.ak hf,h2.ak hf,h3,h4,h5,h6,h7,h8.ah hf⟩
theorem PQ.aok (h:PQ w0 g zp zr q1 n q2 m W)(hf:Fr (fun b=>b=g) W W')(hg:w0.heap.size≤g):PQ w0 g zp zr q1 n q2 m W' :=by
 obtain ⟨lab,pv,dG,pv2,h1,h2,h3,h4,h5,h6,h7,h8⟩:=h;exact ⟨lab,pv,dG,pv2,h1.fr hf (fun b hb=>by rw [show b=g from hb];exact h6),h2.fr hf (fun b hb=>by rw [show b=g from hb];exact h7),h3,h4,h5,h6,h7,h8.aA hf fun b hb=>by rw [show b=g from hb];exact hg⟩
theorem PQ.fresh (h:PQ w0 g zp zr q1 n q2 m W)(hg:W.heap.size≤g'):PQ w0 g' zp zr q1 n q2 m W:=by
 obtain ⟨lab,pv,dG,pv2,h1,h2,h3,h4,h5,h6,h7,h8⟩:=h;refine ⟨lab,pv,dG,pv2,h1,h2,h3,h4,h5,?_,?_,h8⟩
 ·cases hl:lab g' with
  |none=>rfl
  |some j=>exact absurd (h1.lt g' j hl) oy
 ·cases hl:dG g' with
  |none=>rfl
  |some j=>exact absurd (h2.lt g' j hl) oy
theorem PQ.net (h:PQ w0 g zp zr q1 n q2 m W):∃A c,q2.net.length≤c∧c≤maxLen∧zr<W.heap.size∧q2.net.length≤256∧∀V,Fr No W V→V.cell? ⟨zr,1,none⟩=some (.slice A q2.net.length c):=by
 obtain ⟨lab,pv,dG,pv2,h1,h2,-⟩:=h;obtain ⟨Ar,cr,NV,DV,vs,b1,b2,b3,b4⟩:=h2.mem;obtain ⟨A,c,rfl,-⟩:=b3.own.form;exact ⟨A,c,b3.own.cap.1,b3.own.cap.2,b1.lt,h2.ok.net,fun V hf=>(b1.fr hf fun h=>h).cell 1⟩
theorem PQ.do_ {T:TypeId}{cs:Array Value}(h:PQ w0 g zp zr q1 n q2 m W)(kind who num:Int)(e:En)(he:e.ok)(hsz:n+800000≤140737488355328)(hb:Blk W g T cs):
  Calls Tryz.prog 26 #[.pointer (some ⟨zp,0,none⟩),gZ kind who num e] W fun x w' =>x= .returned (.int .i64 (q1.jh kind who num e))∧PQ w0 g zp zr (q1.act kind who num e) (n+700000) q2 m w'∧Blk w' g T cs:=by
 obtain ⟨lab,pv,dG,pv2,h1,h2,h3,h4,h5,h6,h7,h8⟩:=h;refine (am3 h1 kind who num e he hsz).mono ?_;rintro x w' ⟨hx,lab',a1,a2,a3⟩;have hgl:=hb.lt;have hnew:∀b j,lab' b=some j→w0.heap.size≤b:=fun b j hb=>by
  rcases Nat.lt_or_ge b W.heap.size with hl|hl
  ·rw [a2 b hl] at hb
   exact h4 b j hb
  ·exact Nat.le_trans h8.size hl
 refine ⟨hx,⟨lab',pv,dG,pv2,a1,h2.fr a3 (fun b hb=>h3 b hb),fun b hb=> ?_,hnew,h5,by rw [a2 g hgl];exact h6,h7,h8.aA a3 fun b hb=> ?_⟩,hb.fr a3 fun hh=>hh h6⟩
 ·rcases Nat.lt_or_ge b W.heap.size with hl|hl
  ·rw [a2 b hl] at hb
   exact h3 b hb
  ·cases hlb:dG b with
   |none=>rfl
   |some j=>exact absurd (h2.lt b j hlb) oy
 ·cases hlb:lab b with
  |none=>exact absurd hlb hb
  |some j=>exact h4 b j hlb
theorem PQ.rdo {T:TypeId}{cs:Array Value}(h:PQ w0 g zp zr q1 n q2 m W)(kind who num:Int)(e:En)(he:e.ok)(hsz:m+800000≤1000000000000)(hb:Blk W g T cs):
  Calls Tryz.prog 27 #[.pointer (some ⟨zr,0,none⟩),gZ kind who num e] W fun x w' =>x= .returned (.int .i64 (q2.jh kind who num e))∧PQ w0 g zp zr q1 n (q2.act kind who num e) (m+700000) w'∧Blk w' g T cs:=by
 obtain ⟨lab,pv,dG,pv2,h1,h2,h3,h4,h5,h6,h7,h8⟩:=h;refine (ani h2 kind who num e he hsz).mono ?_;rintro x w' ⟨hx,lab',a1,a2,a3⟩;have hgl:=hb.lt;have h3' :∀b,dG b≠none→lab b=none:=fun b hb=>by
  cases hl:lab b with
  |none=>rfl
  |some j=>exact absurd (h3 b (by rw [hl];simp)) hb
 have hnew:∀b j,lab' b=some j→w0.heap.size≤b:=fun b j hb=>by
  rcases Nat.lt_or_ge b W.heap.size with hl|hl
  ·rw [a2 b hl] at hb
   exact h5 b j hb
  ·exact Nat.le_trans h8.size hl
 refine ⟨hx,⟨lab,pv,lab',pv2,h1.fr a3 (fun b hb=>h3' b hb),a1,fun b hb=> ?_,h4,hnew,h6,by rw [a2 g hgl];exact h7,h8.aA a3 fun b hb=> ?_⟩,hb.fr a3 fun hh=>hh h7⟩
 ·cases hl:lab b with
  |none=>exact absurd hl hb
  |some j=>
   have:=h1.lt b j hl;rw [a2 b this];exact h3 b hb
 ·cases hlb:dG b with
  |none=>exact absurd hlb hb
  |some j=>exact h5 b j hlb
theorem PQ.same (h:PQ w0 g zp zr q n q m W):Calls Tryz.prog 28 #[.pointer (some ⟨zp,0,none⟩),.pointer (some ⟨zr,0,none⟩)] W fun e w' =>e= .returned (.bool true)∧PQ w0 g zp zr q n q m w' :=by
 have hh:=h;obtain ⟨lab,pv,dG,pv2,h1,h2,-⟩:=h;exact (sF h1 h2).mono fun e w' ⟨he,hf⟩=>⟨he,hh.ak hf⟩
theorem PQ.akk {T:TypeId}{cs:Array Value}(h:PQ w0 g zp zr q n q m W)(hb:Blk W g T cs):Calls Tryz.prog 28 #[.pointer (some ⟨zp,0,none⟩),.pointer (some ⟨zr,0,none⟩)] W fun e w' =>e= .returned (.bool true)∧PQ w0 g zp zr q n q m w'∧Blk w' g T cs:=by
 have hh:=h;obtain ⟨lab,pv,dG,pv2,h1,h2,-⟩:=h;exact (sF h1 h2).mono fun e w' ⟨he,hf⟩=>⟨he,hh.ak hf,hb.fr hf fun h=>h⟩
theorem PQ.start {lab pv dG pv2}{N:Nat}(h1:QAt W1 lab zp pv (jJ N) 0)(n1:∀b j,lab b=some j→w0.heap.size≤b)(f1:Fr No w0 W1)(f2:Fr No W1 W)(h2:eD W2 dG zr pv2 (jJ N) 0)(n2:∀b j,dG b=some j→W.heap.size≤b)(f3:Fr No W W2):PQ w0 W2.heap.size zp zr (jJ N) 0 (jJ N) 0 W2:=by
 have s1:=f1.size;have s2:=f2.size;have s3:=f3.size;refine PQ.fresh (g:=w0.heap.size-1+W2.heap.size+1) ⟨lab,pv,dG,pv2,(h1.ak f2).ak f3,h2,fun b hb=> ?_,n1,fun b j hb=> ?_,?_,?_,(f1.ah f2).ah f3⟩ (Nat.le_refl _)
 ·cases hl:lab b with
  |none=>exact absurd hl hb
  |some j=>
   cases hlb:dG b with
   |none=>rfl
   |some i=>
    have a1:=h1.lt b j hl;have a2:=n2 b i hlb
    omega
 ·have:=n2 b j hb
  omega
 ·cases hl:lab (w0.heap.size-1+W2.heap.size+1) with
  |none=>rfl
  |some j=>exact absurd (h1.lt _ j hl) oy
 ·cases hl:dG (w0.heap.size-1+W2.heap.size+1) with
  |none=>rfl
  |some j=>exact absurd (h2.lt _ j hl) oy
end
end
end Go.Proofs.YtjnfmfmglehmbaaGreat
