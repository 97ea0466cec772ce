/-
  The program's quorum: a message is delivered, or repeated.
-/
import Derived.Test.YtjnfmfmglehmbaaGreatQ28
namespace Go.Proofs.YtjnfmfmglehmbaaGreat
open Go.ChangeShapes Go.WideShapes Go.ChangeAt Go.RowKit
set_option linter.unusedVariables false
set_option maxRecDepth 100000
set_option maxHeartbeats 4000000
section
section
variable {w w' :World}{lab lab' :Nat→Option Nat}{z n m:Nat}{pv:Nat→Nat}{q q1:Qs}{F:Nat→Prop}
set_option maxHeartbeats 8000000 in
theorem akv (h:QAt w lab z pv q n)(who:Int)(i:Nat)(hi:i<q.net.length)(e:En)(hsz:n+800000≤140737488355328):Calls Tryz.prog 26 #[.pointer (some ⟨z,0,none⟩),gZ 4 who i e] w (uU w lab z pv q n 4 who i e):=by
 have hpm:q.permits 4 who (i:Int)=true:=by unfold Qs.permits;simp;omega
 have hX:q.jh 4 who (i:Int) e=0:=by unfold Qs.jh;simp [hpm]
 obtain ⟨m,hm⟩:∃m,q.net[i]? =some m:=⟨_,List.getElem?_eq_getElem hi⟩;have hat:q.at_ (i:Int)=m:=by unfold Qs.at_;rw [Int.toNat_natCast,hm];rfl
 have nS:=h.ok.msgs m (List.mem_of_getElem? hm);obtain ⟨t,ht,hto⟩:=nS.to_;have hA:q.act 4 who (i:Int) e=((q.remove i).put t ((q.rs t).handle m)).note:=by
  have e1:q.act 4 who (i:Int) e=((q.remove i).give m).note:=by unfold Qs.act;simp [hX,hat]
  rw [e1];unfold Qs.give;rw [hto,Int.toNat_natCast]
  rfl
 obtain ⟨W0,hW0⟩:∃W0,W0=w.alloc (.cells (eU 4 who (i:Int) e).toArray fE):=⟨_,rfl⟩;have hf0:Fr No w W0:=by rw [hW0];exact aj _ _
 obtain ⟨g,hg⟩:∃g,g=w.heap.size:=⟨_,rfl⟩;have hb0:Blk W0 g fE (eU 4 who (i:Int) e).toArray:=by rw [hg,hW0];exact Blk.new _ _ _
 have jE:=eF (h.ak hf0) 4 who (i:Int) e;rw [hpm] at jE;have hac:=fun W (hf:Fr No W0 W)=>aM (hb0.fr hf id);obtain ⟨Ar,cr',NV,DV,vs,m1,m2,m3,m4⟩:=h.mem;obtain ⟨An,cn,rfl,-⟩:=m3.own.form;have hcn:=m3.own.cap;have jF:=h.ok.net;obtain ⟨bl,x,rfl,hbl,-,-,hxe,e0,e1,e2,e3,e4,e5,e6,e7,e8⟩:=m3.at_ hm;obtain ⟨Ax,cx,rfl⟩:∃Ax cx,x= .slice Ax m.es.length cx:=(let ⟨A,c,e,_⟩:=hxe;⟨A,c,e⟩);have hcb:=fun V (hf:Fr No W0 V) (o:Nat)=>(hf0.ah hf).cell (p:=⟨bl,o,none⟩) hbl fun h=>h;obtain ⟨kd,mf,mto,mt,ix,pr,cm,ok,es⟩:=m;simp only at hto e0 e1 e2 e3 e4 e5 e6 e7 e8 hxe;subst hto;have hsa:=fun V (hf:Fr No W0 V)=>(⟨((m1.fr hf0 id).fr hf id).cell 1,(let ⟨_,_,a2,_⟩:=hac V hf;a2),(hcb V hf _).trans e0,(hcb V hf _).trans e1,(hcb V hf _).trans e2,(hcb V hf _).trans e3,(hcb V hf _).trans e4,(hcb V hf _).trans e5,(hcb V hf _).trans e6,(hcb V hf _).trans e7,(hcb V hf _).trans e8⟩:V.cell? ⟨z,1,none⟩=some (.slice (some ⟨bl,0,none⟩) q.net.length cn)∧V.cell? ⟨g,2,none⟩=some (.int .i64 i)∧V.cell? ⟨bl,i*9,none⟩=some (.int .i64 kd)∧V.cell? ⟨bl,i*9+1,none⟩=some (.int .i64 mf)∧V.cell? ⟨bl,i*9+2,none⟩=some (.int .i64 (t:Int))∧V.cell? ⟨bl,i*9+3,none⟩=some (.int .i64 mt)∧V.cell? ⟨bl,i*9+4,none⟩=some (.int .i64 ix)∧V.cell? ⟨bl,i*9+5,none⟩=some (.int .i64 pr)∧V.cell? ⟨bl,i*9+6,none⟩=some (.int .i64 cm)∧V.cell? ⟨bl,i*9+7,none⟩=some (.bool ok)∧V.cell? ⟨bl,i*9+8,none⟩=some (.slice Ax es.length cx));have h5:=h.ok.five;have hlen:es.length≤4096:=nS.few;have rO:=nS.es;have hgo:=fun W2 w3 g7 (hf:Fr No w W2) (hg7:lab g7=none) (hbm:Blk W2 g7 TMs (Ms.cells ⟨kd,mf,t,mt,ix,pr,cm,ok,es⟩ (.slice Ax es.length cx)).toArray) (hq3:QAt w3 lab z pv (q.remove i) n) (f3:Fr (fun b=>lab b=some 0∨lab b=some 2) W2 w3)=>(by
  obtain ⟨br,cr,hnc,hcm,hb1,hbl,r0,r1⟩:=hq3.xD;have hzw:=hq3.lt z 0 hq3.z0;have lM:Blk w3 g7 TMs (Ms.cells ⟨kd,mf,t,mt,ix,pr,cm,ok,es⟩ (.slice Ax es.length cx)).toArray:=hbm.fr f3 fun hh=>by rw [hg7] at hh;simp at hh
  have hE:Ent w3 (part lab 3) (.slice Ax es.length cx) es:=(hxe.ak hf).fr f3 fun b hb hh=>by
   rcases hh with hh|hh
   ·exact aG (show (3:Nat)≠0 by omega) b hb hh
   ·exact aG (show (3:Nat)≠2 by omega) b hb hh
  have ht3:t<(q.remove i).n:=ht;obtain ⟨o1,o2,o3⟩:=hq3.ok.each t ht3;have hgk:=fun V (hk:Keeps w3 lab z V) (o:Nat)=>hk.1 ⟨g7,o,none⟩ lM.lt (.inl hg7);refine ⟨br,cr,hnc,hcm,fun V hk=>⟨hk.2.trans r0,(hgk V hk 0).trans (lM.cell 0),(hgk V hk 1).trans (lM.cell 1),(hgk V hk 2).trans (lM.cell 2),(hgk V hk 3).trans (lM.cell 3),(hgk V hk 4).trans (lM.cell 4),(hgk V hk 5).trans (lM.cell 5),(hgk V hk 6).trans (lM.cell 6),(hgk V hk 7).trans (lM.cell 7),(hgk V hk 8).trans (lM.cell 8),(hk.1 ⟨br,t,none⟩ hbl (.inr hb1)).trans (r1 t ht3)⟩,?_,fun W' x hc=> ?_⟩
  ·exact pz (hq3.jN t ht3) ⟨kd,mf,t,mt,ix,pr,cm,ok,es⟩ Ax cx hE (aG oy) rO (by show es.length≤1000000;omega) oy
  ·exact hq3.sent (m:=n+700000) ht3 (x:=(q.rs t).handle ⟨kd,mf,t,mt,ix,pr,cm,ok,es⟩) (e:=x) (w' :=W') oy hc (iA _ _).1 (iA _ _).2 (by have:=o1.kr (m:=⟨kd,mf,t,mt,ix,pr,cm,ok,es⟩);rw [o3] at this;exact this) o1.kX:∃br cr,q.n≤cr∧cr≤maxLen∧(∀V,Keeps w3 lab z V→V.cell? ⟨z,0,none⟩=some (.slice (some ⟨br,0,none⟩) q.n cr)∧V.cell? ⟨g7,0,none⟩=some (.int .i64 kd)∧V.cell? ⟨g7,1,none⟩=some (.int .i64 mf)∧V.cell? ⟨g7,2,none⟩=some (.int .i64 (t:Int))∧V.cell? ⟨g7,3,none⟩=some (.int .i64 mt)∧V.cell? ⟨g7,4,none⟩=some (.int .i64 ix)∧V.cell? ⟨g7,5,none⟩=some (.int .i64 pr)∧V.cell? ⟨g7,6,none⟩=some (.int .i64 cm)∧V.cell? ⟨g7,7,none⟩=some (.bool ok)∧V.cell? ⟨g7,8,none⟩=some (.slice Ax es.length cx)∧V.cell? ⟨br,t,none⟩=some (.pointer (some ⟨pv t,0,none⟩)))∧Calls Tryz.prog 49 #[.pointer (some ⟨pv t,0,none⟩),Ms.v ⟨kd,mf,t,mt,ix,pr,cm,ok,es⟩ (.slice Ax es.length cx)] w3 (aQ w3 (part lab (10+t)) (pv t) ((q.rs t).handle ⟨kd,mf,t,mt,ix,pr,cm,ok,es⟩) (n+700000))∧∀W' x,aQ w3 (part lab (10+t)) (pv t) ((q.rs t).handle ⟨kd,mf,t,mt,ix,pr,cm,ok,es⟩) (n+700000) x W'→
   ∃A c,x= .returned (.slice A ((q.rs t).handle ⟨kd,mf,t,mt,ix,pr,cm,ok,es⟩).2.length c)∧Keeps w3 lab z W'∧Calls Tryz.prog 62 #[.pointer (some ⟨z,0,none⟩),.slice A ((q.rs t).handle ⟨kd,mf,t,mt,ix,pr,cm,ok,es⟩).2.length c] W' fun e2 w2=>e2= .returned (.tuple #[])∧Keeps w3 lab z w2∧QTo w3 lab z pv ((q.remove i).put t ((q.rs t).handle ⟨kd,mf,t,mt,ix,pr,cm,ok,es⟩)) (n+700000) w2)
 have jD:=fun W (hf:Fr No w W)=>pq (h.ak hf) i hi;have hsame:=fun W (hf:Fr No w W)=>h.ak hf;have hend:=fun W W2 W' qq (hf:Fr No w W) (f3:Fr (fun b=>lab b=some 0∨lab b=some 2) W W2) (hq:QTo W2 lab z pv qq (n+700000) W')=>QTo.after (n:=n+700000) hf h.lt (hq.from (fun _ _=>rfl) (f3.mono fun b hb=>by rcases hb with hb|hb<;>rw [hb]<;>simp));have hfresh:∀b,w.heap.size≤b→lab b=none:=fun b hb=>by
  cases hlg:lab b with
  |none=>rfl
  |some j=>exact absurd (h.lt b j hlg) oy
 have ht2:(t:Int)<(q.n:Int):=by omega
 have hi2:(i:Int)<(q.net.length:Int):=by omega
 have hzl:z<W0.heap.size:=nll (h.lt z 0 h.z0) hf0.size;obtain ⟨c0,c1,c2,c3,c4,c5,c6,c7,c8,c9,c10,c11⟩:=hac W0 (Fr.refl _ _);have hgl:=hb0.lt;unfold maxLen at hcn;unfold uU;rw [hX,hA];have FF:=O hf0;generalize (q.rs t).handle ⟨kd,mf,t,mt,ix,pr,cm,ok,es⟩=HH at*;obtain ⟨ek,ti,te,ce,ot,ep,fr,un,nn⟩:=e;simp only [eU] at hW0;simp only at c3 c4 c5 c6 c7 c8 c9 c10 c11;unfold gZ at jE ⊢;unfold Ms.v at hgo;clear h hpm hX hA hb0 hf0 m1 m2 m3 m4 e0 e1 e2 e3 e4 e5 e6 e7 e8 hxe hm hat nS rO hcb;obtain ⟨ru,HAC,HSA,HGO,lW,kG,dZ,HW0,HG,kH⟩:=lH jE hac hsa hgo jD hsame hend hW0 hg hfresh;clear jE hac hsa hgo jD hsame hend hW0 hg hfresh
 go_in
 go_upto_region 1 with fail
 rw [←HW0.out,←HG.out]
 go_wp2_with fail
 refine ru.out.mono ?_;rintro e w1 ⟨rfl,f1⟩;obtain ⟨d0,d1,d2,-⟩:=HAC.out w1 f1;have F1:=O (FF.out.ah f1);have hd:=HSA.out w1.drew f1.drew;have HKT:=O fun V (hf:Fr No w1 V)=>HSA.out V (f1.ah hf);have hz1:z<w1.heap.size:=nll hzl f1.size;have hg1:g<w1.heap.size:=nll hgl f1.size;have ahq:=O fun W (hf:Fr No w1 W)=>HAC.out W (f1.ah hf);clear c0 c1 c2 c3 c4 c5 c6 c7 c8 c9 c10 c11 f1 HSA HAC ru
 go_wp2_with fail
 go_region_held3 (fun V=>V.cell? ⟨z,1,none⟩=some (.slice (some ⟨bl,0,none⟩) q.net.length cn)∧V.cell? ⟨g,2,none⟩=some (.int .i64 i)∧V.cell? ⟨bl,i*9,none⟩=some (.int .i64 kd)∧V.cell? ⟨bl,i*9+1,none⟩=some (.int .i64 mf)∧V.cell? ⟨bl,i*9+2,none⟩=some (.int .i64 (t:Int))∧V.cell? ⟨bl,i*9+3,none⟩=some (.int .i64 mt)∧V.cell? ⟨bl,i*9+4,none⟩=some (.int .i64 ix)∧V.cell? ⟨bl,i*9+5,none⟩=some (.int .i64 pr)∧V.cell? ⟨bl,i*9+6,none⟩=some (.int .i64 cm)∧V.cell? ⟨bl,i*9+7,none⟩=some (.bool ok)∧V.cell? ⟨bl,i*9+8,none⟩=some (.slice Ax es.length cx)) (first|exact hd|exact HKT.out _ frz) (first|fail)
 have hsz1:=F1.out.size;obtain ⟨W2,hW2⟩:∃W2,W2=(w1.alloc (.cells #[.int .i64 kd,.int .i64 mf,.int .i64 (t:Int),.int .i64 mt,.int .i64 ix,.int .i64 pr,.int .i64 cm,.bool ok,.slice Ax es.length cx] TMs)).drew:=⟨_,rfl⟩;obtain ⟨g7,hg7⟩:∃g7,g7=w1.heap.size:=⟨_,rfl⟩;rw [←hW2,←hg7];have f12:Fr No w1 W2:=by rw [hW2];exact (aj _ _).drew
 have F2:=O (F1.out.ah f12);have hbm:Blk W2 g7 TMs (Ms.cells ⟨kd,mf,t,mt,ix,pr,cm,ok,es⟩ (.slice Ax es.length cx)).toArray:=by rw [hW2,hg7];exact (Blk.new _ _ _).fr (Fr.refl No _).drew fun h=>h
 have hl7:=O (kH.out g7 (by rw [hg7];exact hsz1));obtain ⟨d0,d1,d2,-⟩:=ahq.out W2 f12;have hz2:z<W2.heap.size:=nll hz1 f12.size;have hg2:g<W2.heap.size:=nll hg1 f12.size;have h72:=hbm.lt;have BM:=O hbm;clear hd HKT ahq hW2 hg7 hbm f12 kH
 go_wp2_with fail
 refine (lW.out W2 F2.out).mono ?_;rintro e w3 ⟨rfl,q1,f3⟩;have Q3:=O (show QAt w3.drew lab z pv (q.remove i) n∧Fr (fun b=>lab b=some 0∨lab b=some 2) W2 w3.drew from ⟨q1.ak (Fr.refl _ _).drew,f3.drew⟩);clear q1 f3;obtain ⟨br,cr,hnc,hcm,hks,hcall,fC⟩:=HGO.out W2 w3.drew g7 F2.out hl7.out BM.out Q3.out.1 Q3.out.2;have HE:=O fun W' qq=>dZ.out W2 w3.drew W' qq F2.out Q3.out.2;have hd:=hks w3.drew ⟨fun _ _ _=>rfl,rfl⟩;have hz3:=nll hz2 Q3.out.2.size;have hg3:=nll hg2 Q3.out.2.size;have h73:=nll h72 Q3.out.2.size;unfold maxLen at hcm;clear HGO dZ lW kG d0 d1 d2 hz2 hg2 h72;obtain ⟨HKS,dL,gq⟩:=bP hks hcall fC;clear hks hcall fC
 go_wp2_with fail
 go_region_held3 (fun V=>V.cell? ⟨z,0,none⟩=some (.slice (some ⟨br,0,none⟩) q.n cr)∧V.cell? ⟨g7,0,none⟩=some (.int .i64 kd)∧V.cell? ⟨g7,1,none⟩=some (.int .i64 mf)∧V.cell? ⟨g7,2,none⟩=some (.int .i64 (t:Int))∧V.cell? ⟨g7,3,none⟩=some (.int .i64 mt)∧V.cell? ⟨g7,4,none⟩=some (.int .i64 ix)∧V.cell? ⟨g7,5,none⟩=some (.int .i64 pr)∧V.cell? ⟨g7,6,none⟩=some (.int .i64 cm)∧V.cell? ⟨g7,7,none⟩=some (.bool ok)∧V.cell? ⟨g7,8,none⟩=some (.slice Ax es.length cx)∧V.cell? ⟨br,t,none⟩=some (.pointer (some ⟨pv t,0,none⟩))) (first|exact hd|exact k1|exact k2) (first
  |(go_at_call 49;refine dL.out.mono ?_;rintro e v1 hc;obtain ⟨A1,c1',rfl,k1',hs⟩:=gq.out _ _ hc;have k1:=HKS.out _ k1';have HS2:=O hs;clear hc k1' hs)
  |(go_at_call 62;refine HS2.out.mono ?_;rintro e v2 ⟨rfl,k2',q2⟩;have k2:=HKS.out _ k2';have Q2:=O q2;clear k2' q2))
 have dP:=O (QTo.noted Q2.out);clear hd HKS k2 dL gq HS2
 go_wp2_with fail
 refine dP.out.mono ?_;rintro e v3 ⟨rfl,q3⟩;have QE:=O (HE.out _ _ q3);clear q3 dP HE Q2
 go_wp2_with fail
 go_ret
 exact ⟨rfl,QE.out⟩
set_option maxHeartbeats 8000000 in
theorem aku (h:QAt w lab z pv q n)(who:Int)(i:Nat)(hi:i<q.net.length)(e:En)(hsz:n+800000≤140737488355328):Calls Tryz.prog 26 #[.pointer (some ⟨z,0,none⟩),gZ 5 who i e] w (uU w lab z pv q n 5 who i e):=by
 have hpm:q.permits 5 who (i:Int)=true:=by unfold Qs.permits;simp;omega
 have hX:q.jh 5 who (i:Int) e=0:=by unfold Qs.jh;simp [hpm]
 obtain ⟨m,hm⟩:∃m,q.net[i]? =some m:=⟨_,List.getElem?_eq_getElem hi⟩;have hat:q.at_ (i:Int)=m:=by unfold Qs.at_;rw [Int.toNat_natCast,hm];rfl
 have nS:=h.ok.msgs m (List.mem_of_getElem? hm);obtain ⟨t,ht,hto⟩:=nS.to_;have hA:q.act 5 who (i:Int) e=(q.put t ((q.rs t).handle m)).note:=by
  have e1:q.act 5 who (i:Int) e=(q.give m).note:=by unfold Qs.act;simp [hX,hat]
  rw [e1];unfold Qs.give;rw [hto,Int.toNat_natCast]
 obtain ⟨W0,hW0⟩:∃W0,W0=w.alloc (.cells (eU 5 who (i:Int) e).toArray fE):=⟨_,rfl⟩;have hf0:Fr No w W0:=by rw [hW0];exact aj _ _
 obtain ⟨g,hg⟩:∃g,g=w.heap.size:=⟨_,rfl⟩;have hb0:Blk W0 g fE (eU 5 who (i:Int) e).toArray:=by rw [hg,hW0];exact Blk.new _ _ _
 have jE:=eF (h.ak hf0) 5 who (i:Int) e;rw [hpm] at jE;have hac:=fun W (hf:Fr No W0 W)=>aM (hb0.fr hf id);obtain ⟨Ar,cr',NV,DV,vs,m1,m2,m3,m4⟩:=h.mem;obtain ⟨An,cn,rfl,-⟩:=m3.own.form;have hcn:=m3.own.cap;have jF:=h.ok.net;obtain ⟨bl,x,rfl,hbl,-,-,hxe,e0,e1,e2,e3,e4,e5,e6,e7,e8⟩:=m3.at_ hm;obtain ⟨Ax,cx,rfl⟩:∃Ax cx,x= .slice Ax m.es.length cx:=(let ⟨A,c,e,_⟩:=hxe;⟨A,c,e⟩);have hcb:=fun V (hf:Fr No W0 V) (o:Nat)=>(hf0.ah hf).cell (p:=⟨bl,o,none⟩) hbl fun h=>h;obtain ⟨kd,mf,mto,mt,ix,pr,cm,ok,es⟩:=m;simp only at hto e0 e1 e2 e3 e4 e5 e6 e7 e8 hxe;subst hto;have hsa:=fun V (hf:Fr No W0 V)=>(⟨((m1.fr hf0 id).fr hf id).cell 1,(let ⟨_,_,a2,_⟩:=hac V hf;a2),(hcb V hf _).trans e0,(hcb V hf _).trans e1,(hcb V hf _).trans e2,(hcb V hf _).trans e3,(hcb V hf _).trans e4,(hcb V hf _).trans e5,(hcb V hf _).trans e6,(hcb V hf _).trans e7,(hcb V hf _).trans e8⟩:V.cell? ⟨z,1,none⟩=some (.slice (some ⟨bl,0,none⟩) q.net.length cn)∧V.cell? ⟨g,2,none⟩=some (.int .i64 i)∧V.cell? ⟨bl,i*9,none⟩=some (.int .i64 kd)∧V.cell? ⟨bl,i*9+1,none⟩=some (.int .i64 mf)∧V.cell? ⟨bl,i*9+2,none⟩=some (.int .i64 (t:Int))∧V.cell? ⟨bl,i*9+3,none⟩=some (.int .i64 mt)∧V.cell? ⟨bl,i*9+4,none⟩=some (.int .i64 ix)∧V.cell? ⟨bl,i*9+5,none⟩=some (.int .i64 pr)∧V.cell? ⟨bl,i*9+6,none⟩=some (.int .i64 cm)∧V.cell? ⟨bl,i*9+7,none⟩=some (.bool ok)∧V.cell? ⟨bl,i*9+8,none⟩=some (.slice Ax es.length cx));have h5:=h.ok.five;have hlen:es.length≤4096:=nS.few;have rO:=nS.es;have hgo:=fun W2 w3 g7 (hf:Fr No w W2) (hg7:lab g7=none) (hbm:Blk W2 g7 TMs (Ms.cells ⟨kd,mf,t,mt,ix,pr,cm,ok,es⟩ (.slice Ax es.length cx)).toArray) (hq3:QAt w3 lab z pv q n) (f3:Fr (fun b=>lab b=some 0∨lab b=some 2) W2 w3)=>(by
  obtain ⟨br,cr,hnc,hcm,hb1,hbl,r0,r1⟩:=hq3.xD;have hzw:=hq3.lt z 0 hq3.z0;have lM:Blk w3 g7 TMs (Ms.cells ⟨kd,mf,t,mt,ix,pr,cm,ok,es⟩ (.slice Ax es.length cx)).toArray:=hbm.fr f3 fun hh=>by rw [hg7] at hh;simp at hh
  have hE:Ent w3 (part lab 3) (.slice Ax es.length cx) es:=(hxe.ak hf).fr f3 fun b hb hh=>by
   rcases hh with hh|hh
   ·exact aG (show (3:Nat)≠0 by omega) b hb hh
   ·exact aG (show (3:Nat)≠2 by omega) b hb hh
  have ht3:t<q.n:=ht;obtain ⟨o1,o2,o3⟩:=hq3.ok.each t ht3;have hgk:=fun V (hk:Keeps w3 lab z V) (o:Nat)=>hk.1 ⟨g7,o,none⟩ lM.lt (.inl hg7);refine ⟨br,cr,hnc,hcm,fun V hk=>⟨hk.2.trans r0,(hgk V hk 0).trans (lM.cell 0),(hgk V hk 1).trans (lM.cell 1),(hgk V hk 2).trans (lM.cell 2),(hgk V hk 3).trans (lM.cell 3),(hgk V hk 4).trans (lM.cell 4),(hgk V hk 5).trans (lM.cell 5),(hgk V hk 6).trans (lM.cell 6),(hgk V hk 7).trans (lM.cell 7),(hgk V hk 8).trans (lM.cell 8),(hk.1 ⟨br,t,none⟩ hbl (.inr hb1)).trans (r1 t ht3)⟩,?_,fun W' x hc=> ?_⟩
  ·exact pz (hq3.jN t ht3) ⟨kd,mf,t,mt,ix,pr,cm,ok,es⟩ Ax cx hE (aG oy) rO (by show es.length≤1000000;omega) oy
  ·exact hq3.sent (m:=n+700000) ht3 (x:=(q.rs t).handle ⟨kd,mf,t,mt,ix,pr,cm,ok,es⟩) (e:=x) (w' :=W') oy hc (iA _ _).1 (iA _ _).2 (by have:=o1.kr (m:=⟨kd,mf,t,mt,ix,pr,cm,ok,es⟩);rw [o3] at this;exact this) o1.kX:∃br cr,q.n≤cr∧cr≤maxLen∧(∀V,Keeps w3 lab z V→V.cell? ⟨z,0,none⟩=some (.slice (some ⟨br,0,none⟩) q.n cr)∧V.cell? ⟨g7,0,none⟩=some (.int .i64 kd)∧V.cell? ⟨g7,1,none⟩=some (.int .i64 mf)∧V.cell? ⟨g7,2,none⟩=some (.int .i64 (t:Int))∧V.cell? ⟨g7,3,none⟩=some (.int .i64 mt)∧V.cell? ⟨g7,4,none⟩=some (.int .i64 ix)∧V.cell? ⟨g7,5,none⟩=some (.int .i64 pr)∧V.cell? ⟨g7,6,none⟩=some (.int .i64 cm)∧V.cell? ⟨g7,7,none⟩=some (.bool ok)∧V.cell? ⟨g7,8,none⟩=some (.slice Ax es.length cx)∧V.cell? ⟨br,t,none⟩=some (.pointer (some ⟨pv t,0,none⟩)))∧Calls Tryz.prog 49 #[.pointer (some ⟨pv t,0,none⟩),Ms.v ⟨kd,mf,t,mt,ix,pr,cm,ok,es⟩ (.slice Ax es.length cx)] w3 (aQ w3 (part lab (10+t)) (pv t) ((q.rs t).handle ⟨kd,mf,t,mt,ix,pr,cm,ok,es⟩) (n+700000))∧∀W' x,aQ w3 (part lab (10+t)) (pv t) ((q.rs t).handle ⟨kd,mf,t,mt,ix,pr,cm,ok,es⟩) (n+700000) x W'→
   ∃A c,x= .returned (.slice A ((q.rs t).handle ⟨kd,mf,t,mt,ix,pr,cm,ok,es⟩).2.length c)∧Keeps w3 lab z W'∧Calls Tryz.prog 62 #[.pointer (some ⟨z,0,none⟩),.slice A ((q.rs t).handle ⟨kd,mf,t,mt,ix,pr,cm,ok,es⟩).2.length c] W' fun e2 w2=>e2= .returned (.tuple #[])∧Keeps w3 lab z w2∧QTo w3 lab z pv (q.put t ((q.rs t).handle ⟨kd,mf,t,mt,ix,pr,cm,ok,es⟩)) (n+700000) w2)
 have jD:=fun W (hf:Fr No w W)=>pq (h.ak hf) i hi;have hsame:=fun W (hf:Fr No w W)=>h.ak hf;have hend:=fun W W2 W' qq (hf:Fr No w W) (f3:Fr (fun b=>lab b=some 0∨lab b=some 2) W W2) (hq:QTo W2 lab z pv qq (n+700000) W')=>QTo.after (n:=n+700000) hf h.lt (hq.from (fun _ _=>rfl) (f3.mono fun b hb=>by rcases hb with hb|hb<;>rw [hb]<;>simp));have hfresh:∀b,w.heap.size≤b→lab b=none:=fun b hb=>by
  cases hlg:lab b with
  |none=>rfl
  |some j=>exact absurd (h.lt b j hlg) oy
 have ht2:(t:Int)<(q.n:Int):=by omega
 have hi2:(i:Int)<(q.net.length:Int):=by omega
 have hzl:z<W0.heap.size:=nll (h.lt z 0 h.z0) hf0.size;obtain ⟨c0,c1,c2,c3,c4,c5,c6,c7,c8,c9,c10,c11⟩:=hac W0 (Fr.refl _ _);have hgl:=hb0.lt;unfold maxLen at hcn;unfold uU;rw [hX,hA];have FF:=O hf0;generalize (q.rs t).handle ⟨kd,mf,t,mt,ix,pr,cm,ok,es⟩=HH at*;obtain ⟨ek,ti,te,ce,ot,ep,fr,un,nn⟩:=e;simp only [eU] at hW0;simp only at c3 c4 c5 c6 c7 c8 c9 c10 c11;unfold gZ at jE ⊢;unfold Ms.v at hgo;clear h hpm hX hA hb0 hf0 m1 m2 m3 m4 e0 e1 e2 e3 e4 e5 e6 e7 e8 hxe hm hat nS rO hcb;obtain ⟨ru,HAC,HSA,HGO,lW,kG,dZ,HW0,HG,kH⟩:=lH jE hac hsa hgo jD hsame hend hW0 hg hfresh;clear jE hac hsa hgo jD hsame hend hW0 hg hfresh
 go_in
 go_upto_region 1 with fail
 rw [←HW0.out,←HG.out]
 go_wp2_with fail
 refine ru.out.mono ?_;rintro e w1 ⟨rfl,f1⟩;obtain ⟨d0,d1,d2,-⟩:=HAC.out w1 f1;have F1:=O (FF.out.ah f1);have hd:=HSA.out w1.drew f1.drew;have HKT:=O fun V (hf:Fr No w1 V)=>HSA.out V (f1.ah hf);have hz1:z<w1.heap.size:=nll hzl f1.size;have hg1:g<w1.heap.size:=nll hgl f1.size;have ahq:=O fun W (hf:Fr No w1 W)=>HAC.out W (f1.ah hf);clear c0 c1 c2 c3 c4 c5 c6 c7 c8 c9 c10 c11 f1 HSA HAC ru
 go_wp2_with fail
 go_region_held3 (fun V=>V.cell? ⟨z,1,none⟩=some (.slice (some ⟨bl,0,none⟩) q.net.length cn)∧V.cell? ⟨g,2,none⟩=some (.int .i64 i)∧V.cell? ⟨bl,i*9,none⟩=some (.int .i64 kd)∧V.cell? ⟨bl,i*9+1,none⟩=some (.int .i64 mf)∧V.cell? ⟨bl,i*9+2,none⟩=some (.int .i64 (t:Int))∧V.cell? ⟨bl,i*9+3,none⟩=some (.int .i64 mt)∧V.cell? ⟨bl,i*9+4,none⟩=some (.int .i64 ix)∧V.cell? ⟨bl,i*9+5,none⟩=some (.int .i64 pr)∧V.cell? ⟨bl,i*9+6,none⟩=some (.int .i64 cm)∧V.cell? ⟨bl,i*9+7,none⟩=some (.bool ok)∧V.cell? ⟨bl,i*9+8,none⟩=some (.slice Ax es.length cx)) (first|exact hd|exact HKT.out _ frz) (first|fail)
 have hsz1:=F1.out.size;obtain ⟨W2,hW2⟩:∃W2,W2=(w1.alloc (.cells #[.int .i64 kd,.int .i64 mf,.int .i64 (t:Int),.int .i64 mt,.int .i64 ix,.int .i64 pr,.int .i64 cm,.bool ok,.slice Ax es.length cx] TMs)).drew:=⟨_,rfl⟩;obtain ⟨g7,hg7⟩:∃g7,g7=w1.heap.size:=⟨_,rfl⟩;rw [←hW2,←hg7];have f12:Fr No w1 W2:=by rw [hW2];exact (aj _ _).drew
 have F2:=O (F1.out.ah f12);have hbm:Blk W2 g7 TMs (Ms.cells ⟨kd,mf,t,mt,ix,pr,cm,ok,es⟩ (.slice Ax es.length cx)).toArray:=by rw [hW2,hg7];exact (Blk.new _ _ _).fr (Fr.refl No _).drew fun h=>h
 have hl7:=O (kH.out g7 (by rw [hg7];exact hsz1));obtain ⟨d0,d1,d2,-⟩:=ahq.out W2 f12;have hz2:z<W2.heap.size:=nll hz1 f12.size;have hg2:g<W2.heap.size:=nll hg1 f12.size;have h72:=hbm.lt;have BM:=O hbm;clear hd HKT ahq hW2 hg7 hbm f12 kH;obtain ⟨w3,hw3⟩:∃w3,w3=W2:=⟨_,rfl⟩;have Q3:=O (show QAt w3.drew lab z pv q n∧Fr (fun b=>lab b=some 0∨lab b=some 2) W2 w3.drew from by rw [hw3];exact ⟨kG.out _ F2.out.drew,(Fr.refl _ _).drew⟩);rw [←hw3];clear hw3;obtain ⟨br,cr,hnc,hcm,hks,hcall,fC⟩:=HGO.out W2 w3.drew g7 F2.out hl7.out BM.out Q3.out.1 Q3.out.2;have HE:=O fun W' qq=>dZ.out W2 w3.drew W' qq F2.out Q3.out.2;have hd:=hks w3.drew ⟨fun _ _ _=>rfl,rfl⟩;have hz3:=nll hz2 Q3.out.2.size;have hg3:=nll hg2 Q3.out.2.size;have h73:=nll h72 Q3.out.2.size;unfold maxLen at hcm;clear HGO dZ lW kG d0 d1 d2 hz2 hg2 h72;obtain ⟨HKS,dL,gq⟩:=bP hks hcall fC;clear hks hcall fC
 go_wp2_with fail
 go_region_held3 (fun V=>V.cell? ⟨z,0,none⟩=some (.slice (some ⟨br,0,none⟩) q.n cr)∧V.cell? ⟨g7,0,none⟩=some (.int .i64 kd)∧V.cell? ⟨g7,1,none⟩=some (.int .i64 mf)∧V.cell? ⟨g7,2,none⟩=some (.int .i64 (t:Int))∧V.cell? ⟨g7,3,none⟩=some (.int .i64 mt)∧V.cell? ⟨g7,4,none⟩=some (.int .i64 ix)∧V.cell? ⟨g7,5,none⟩=some (.int .i64 pr)∧V.cell? ⟨g7,6,none⟩=some (.int .i64 cm)∧V.cell? ⟨g7,7,none⟩=some (.bool ok)∧V.cell? ⟨g7,8,none⟩=some (.slice Ax es.length cx)∧V.cell? ⟨br,t,none⟩=some (.pointer (some ⟨pv t,0,none⟩))) (first|exact hd|exact k1|exact k2) (first
  |(go_at_call 49;refine dL.out.mono ?_;rintro e v1 hc;obtain ⟨A1,c1',rfl,k1',hs⟩:=gq.out _ _ hc;have k1:=HKS.out _ k1';have HS2:=O hs;clear hc k1' hs)
  |(go_at_call 62;refine HS2.out.mono ?_;rintro e v2 ⟨rfl,k2',q2⟩;have k2:=HKS.out _ k2';have Q2:=O q2;clear k2' q2))
 have dP:=O (QTo.noted Q2.out);clear hd HKS k2 dL gq HS2
 go_wp2_with fail
 refine dP.out.mono ?_;rintro e v3 ⟨rfl,q3⟩;have QE:=O (HE.out _ _ q3);clear q3 dP HE Q2
 go_wp2_with fail
 go_ret
 exact ⟨rfl,QE.out⟩
end
end
section
theorem qV (X:Int):bits BinOp.and IntKind.i64 X 1=X % 2:=by
 have e:(BitVec.ofInt 64 X &&& BitVec.ofInt 64 1).toNat=(X % 2 ^ 64).toNat % 2:=by
  rw [BitVec.toNat_and,BitVec.toNat_ofInt,show (BitVec.ofInt 64 1).toNat=1 from rfl,Nat.and_one_is_mod]
  norm_cast
 show IntKind.i64.wrap ((BitVec.ofInt 64 X &&& BitVec.ofInt 64 1).toNat:Int)=X % 2
 rw [e,IntKind.wrap_i64]
 omega
section
variable {w w' :World}{lab lab' :Nat→Option Nat}{z n m:Nat}{pv:Nat→Nat}{q q1:Qs}{F:Nat→Prop}
theorem aga {up:Int}{m:Ms}{f t:Nat}(hf:m.from_=f)(ht:m.to_=t):ae4 up m↔(up / 2 ^ f) % 2≠0∧(up / 2 ^ t) % 2≠0:=by
 have e:∀k:Nat,up >>> k=up / 2 ^ k:=fun k=>by rw [Int.shiftRight_eq_div_pow];norm_cast
 unfold ae4;rw [hf,ht,Int.toNat_natCast,Int.toNat_natCast,e f,e t]
 omega
def mU (w:World)(z:Nat):Nat:=match w.cell? ⟨z,1,none⟩ with
 |some (.slice _ n _)=>n
 |_=>0
theorem QAt.mU (h:QAt w lab z pv q n):mU w z=q.net.length:=by
 obtain ⟨Ar,cr,NV,DV,vs,h1,h2,h3,h4⟩:=h.mem;obtain ⟨A,c,rfl,-⟩:=h3.own.form;have c1:=h1.cell 1;unfold Proofs.YtjnfmfmglehmbaaGreat.mU;rw [c1]
 rfl
def ahy (w:World)(lab:Nat→Option Nat)(z:Nat)(pv:Nat→Nat)(q:Qs)(n:Nat)(up:Int)(k:Nat)(W:World):Prop:=
 ∃q1 aZ,(∀q' k',Flushes up q1 k q' k'→Flushes up q 0 q' k')∧QAt W aZ z pv q1 (n+k*700000)∧(∀b,b<w.heap.size→aZ b=lab b)∧Fr (fun b=>lab b≠none) w W
theorem ahy.step {aZ:Nat→Option Nat}{wr W:World}{q2:Qs}{up:Int}{k2:Nat}(hl1:∀b,b<w.heap.size→aZ b=lab b)(hfr:Fr (fun b=>lab b≠none) w wr)(hq:QTo wr aZ z pv q2 (n+k2*700000) W)
  (hfl:∀q' k',Flushes up q2 k2 q' k'→Flushes up q 0 q' k'):ahy w lab z pv q n up k2 W∧mU W z=q2.net.length:=by
 obtain ⟨dG,a2,b2,c2⟩:=hq;refine ⟨⟨q2,dG,hfl,a2,fun b hb=>(b2 b (nll hb hfr.size)).trans (hl1 b hb),hfr.trans c2 fun b hb=> ?_⟩,a2.mU⟩
 rcases Nat.lt_or_ge b w.heap.size with hl|hl
 ·rw [hl1 b hl] at hb
  exact .inl hb
 ·exact .inr hl
theorem QTo.net (h:QTo w lab z pv q n w'):q.net.length≤256:=let ⟨_,h,_⟩:=h;h.ok.net
set_option maxHeartbeats 8000000 in
theorem xK (h:QAt w lab z pv q n)(up:Int)(hsz:n+4000000000≤140737488355328):Calls Tryz.prog 57 #[.pointer (some ⟨z,0,none⟩),.int .i64 up] w fun e w' =>∃(k' :Nat) (q' :Qs),e= .returned (.int .i64 k')∧k'≤5000∧Flushes up q 0 q' k'∧QTo w lab z pv q' (n+4000000000) w' :=by
 have hstart:ahy w lab z pv q n up 0 w:=⟨q,lab,fun _ _ h=>h,by simpa using h,fun _ _=>rfl,Fr.refl _ _⟩;clear h;have iw:=O hstart;clear hstart
 go_in
 go_wp2_with fail
 go_loopw [5] (fun i wr=>∃k:Nat,k≤5000∧i= .int .i64 k∧ahy w lab z pv q n up k wr) (fun i wr=>(5000-(intOf i).toNat)*300+mU wr z)
 case atStart=>exact ⟨0,Nat.zero_le _,rfl,iw.out⟩
 case round=>
  obtain ⟨k,hk,rfl,Q,aZ,hfl,hq,hl1,hfr⟩:=hrel;have hnl:=hq.mU;have jF:=hq.ok.net;obtain ⟨Ar,cr',NV,DV,vs,m1,m2,m3,m4⟩:=hq.mem;obtain ⟨An,cn,rfl,-⟩:=m3.own.form;have z1:wr.cell? ⟨z,1,none⟩=some (.slice An Q.net.length cn):=m1.cell 1;have hzw:=hq.lt z 0 hq.z0
  by_cases hlt:0<Q.net.length∧k<5000
  ·obtain ⟨l0,k5⟩:=hlt
   have b0:decide (0<Q.net.length)=true:=by simpa using l0
   have b1:decide ((0:Int)<(Q.net.length:Int))=true:=by simp;omega
   have b2:decide ((k:Int)<5000)=true:=by simp;omega
   have hi2:(0:Int)<(Q.net.length:Int):=by omega
   obtain ⟨m,hm⟩:∃m,Q.net[0]? =some m:=⟨_,List.getElem?_eq_getElem l0⟩;obtain ⟨ml,hml⟩:∃l,Q.net=m :: l:=by
    match hqn:Q.net with
    |[]=>rw [hqn] at l0;simp at l0
    |a :: l=>rw [hqn] at hm;simp at hm;exact ⟨l,by rw [hm]⟩
   obtain ⟨bl,x,rfl,hbl,-,-,hxe,e0,e1,e2,e3,e4,e5,e6,e7,e8⟩:=m3.at_ hm;have nS:=hq.ok.msgs m (List.mem_of_getElem? hm);obtain ⟨t,ht,hto⟩:=nS.to_;obtain ⟨f,hf5,hfo⟩:=nS.from_;have hiff:=aga (up:=up) hfo hto;have h5:=hq.ok.five;obtain ⟨Ax,cx,rfl⟩:∃Ax cx,x= .slice Ax m.es.length cx:=(let ⟨A,c,e,_⟩:=hxe;⟨A,c,e⟩);have aiz:¬ae4 up m→∀W W2,Fr No wr W→QAt W2 aZ z pv (Q.remove 0) (n+k*700000)→Fr (fun b=>aZ b=some 0∨aZ b=some 2) W W2→ahy w lab z pv q n up k W2∧mU W2 z=(Q.remove 0).net.length:=fun hno W W2 hf h2 f2=>
    ahy.step hl1 hfr (QTo.after hf hq.lt ⟨aZ,h2,fun _ _=>rfl,f2.mono fun b hb=>by rcases hb with hb|hb<;>rw [hb]<;>simp⟩) fun q' k' hh=>hfl q' k' (.skip Q k m ml q' k' k5 hml hno hh)
   have hlen:=nS.few;have rO:=nS.es;have alq:ae4 up m→∀W W2 W3,Fr No wr W→Fr (fun b=>aZ b=some 0∨aZ b=some 2) W W2→QTo W2 aZ z pv ((Q.remove 0).put t ((Q.rs t).handle m)).note (n+k*700000+700000) W3→ahy w lab z pv q n up (k+1) W3∧mU W3 z≤256:=fun hyes W W2 W3 hf f2 h3=>by
    have hg:((Q.remove 0).give m).note=((Q.remove 0).put t ((Q.rs t).handle m)).note:=by
     unfold Qs.give;rw [hto,Int.toNat_natCast]
     rfl
    have h4:QTo wr aZ z pv ((Q.remove 0).put t ((Q.rs t).handle m)).note (n+(k+1)*700000) W3:=(QTo.after hf hq.lt (h3.from (fun _ _=>rfl) (f2.mono fun b hb=>by rcases hb with hb|hb<;>rw [hb]<;>simp))).more oy;have uT:=h4.net;obtain ⟨s1,s2⟩:=ahy.step (up:=up) (q:=q) hl1 hfr h4 fun q' k' hh=>hfl q' k' (.give Q k m ml q' k' k5 hml hyes (by rw [hg];exact hh));exact ⟨s1,by rw [s2];exact uT⟩
   obtain ⟨kd,mf,mto,mt,ix,pr,cm,ok,es⟩:=m;simp only at hto hfo e0 e1 e2 e3 e4 e5 e6 e7 e8 hxe hlen;subst hto hfo;simp only [Nat.zero_mul,Nat.zero_add] at e0 e1 e2 e3 e4 e5 e6 e7 e8;have jD:=fun W (hf:Fr No wr W)=>pq (hq.ak hf) 0 l0;have hgo:=fun W2 w3 g7 (hf:Fr No wr W2) (hg7:aZ g7=none) (hbm:Blk W2 g7 TMs (Ms.cells ⟨kd,(f:Int),(t:Int),mt,ix,pr,cm,ok,es⟩ (.slice Ax es.length cx)).toArray) (hq3:QAt w3 aZ z pv (Q.remove 0) (n+k*700000)) (f3:Fr (fun b=>aZ b=some 0∨aZ b=some 2) W2 w3)=>(by
    obtain ⟨br,cr,hnc,hcm,hb1,hbl,r0,r1⟩:=hq3.xD;have lM:Blk w3 g7 TMs (Ms.cells ⟨kd,(f:Int),(t:Int),mt,ix,pr,cm,ok,es⟩ (.slice Ax es.length cx)).toArray:=hbm.fr f3 fun hh=>by rw [hg7] at hh;simp at hh
    have hE:Ent w3 (part aZ 3) (.slice Ax es.length cx) es:=(hxe.ak hf).fr f3 fun b hb hh=>by
     rcases hh with hh|hh
     ·exact aG (show (3:Nat)≠0 by omega) b hb hh
     ·exact aG (show (3:Nat)≠2 by omega) b hb hh
    have ht3:t<(Q.remove 0).n:=ht;obtain ⟨o1,o2,o3⟩:=hq3.ok.each t ht3;have hgk:=fun V (hk:Keeps w3 aZ z V) (o:Nat)=>hk.1 ⟨g7,o,none⟩ lM.lt (.inl hg7);refine ⟨br,cr,hnc,hcm,fun V hk=>⟨hk.2.trans r0,(hgk V hk 0).trans (lM.cell 0),(hgk V hk 1).trans (lM.cell 1),(hgk V hk 2).trans (lM.cell 2),(hgk V hk 3).trans (lM.cell 3),(hgk V hk 4).trans (lM.cell 4),(hgk V hk 5).trans (lM.cell 5),(hgk V hk 6).trans (lM.cell 6),(hgk V hk 7).trans (lM.cell 7),(hgk V hk 8).trans (lM.cell 8),(hk.1 ⟨br,t,none⟩ hbl (.inr hb1)).trans (r1 t ht3)⟩,?_,fun W' x hc=> ?_⟩
    ·exact pz (hq3.jN t ht3) ⟨kd,(f:Int),(t:Int),mt,ix,pr,cm,ok,es⟩ Ax cx hE (aG oy) rO (by show es.length≤1000000;omega) oy
    ·exact hq3.sent (m:=n+k*700000+700000) ht3 (x:=(Q.rs t).handle ⟨kd,(f:Int),(t:Int),mt,ix,pr,cm,ok,es⟩) (e:=x) (w' :=W') oy hc (iA _ _).1 (iA _ _).2 (by have:=o1.kr (m:=⟨kd,(f:Int),(t:Int),mt,ix,pr,cm,ok,es⟩);rw [o3] at this;exact this) o1.kX:∃br cr,Q.n≤cr∧cr≤maxLen∧(∀V,Keeps w3 aZ z V→V.cell? ⟨z,0,none⟩=some (.slice (some ⟨br,0,none⟩) Q.n cr)∧V.cell? ⟨g7,0,none⟩=some (.int .i64 kd)∧V.cell? ⟨g7,1,none⟩=some (.int .i64 (f:Int))∧V.cell? ⟨g7,2,none⟩=some (.int .i64 (t:Int))∧V.cell? ⟨g7,3,none⟩=some (.int .i64 mt)∧V.cell? ⟨g7,4,none⟩=some (.int .i64 ix)∧V.cell? ⟨g7,5,none⟩=some (.int .i64 pr)∧V.cell? ⟨g7,6,none⟩=some (.int .i64 cm)∧V.cell? ⟨g7,7,none⟩=some (.bool ok)∧V.cell? ⟨g7,8,none⟩=some (.slice Ax es.length cx)∧V.cell? ⟨br,t,none⟩=some (.pointer (some ⟨pv t,0,none⟩)))∧Calls Tryz.prog 49 #[.pointer (some ⟨pv t,0,none⟩),Ms.v ⟨kd,(f:Int),(t:Int),mt,ix,pr,cm,ok,es⟩ (.slice Ax es.length cx)] w3 (aQ w3 (part aZ (10+t)) (pv t) ((Q.rs t).handle ⟨kd,(f:Int),(t:Int),mt,ix,pr,cm,ok,es⟩) (n+k*700000+700000))∧∀W' x,aQ w3 (part aZ (10+t)) (pv t) ((Q.rs t).handle ⟨kd,(f:Int),(t:Int),mt,ix,pr,cm,ok,es⟩) (n+k*700000+700000) x W'→
     ∃A c,x= .returned (.slice A ((Q.rs t).handle ⟨kd,(f:Int),(t:Int),mt,ix,pr,cm,ok,es⟩).2.length c)∧Keeps w3 aZ z W'∧Calls Tryz.prog 62 #[.pointer (some ⟨z,0,none⟩),.slice A ((Q.rs t).handle ⟨kd,(f:Int),(t:Int),mt,ix,pr,cm,ok,es⟩).2.length c] W' fun e2 w2=>e2= .returned (.tuple #[])∧Keeps w3 aZ z w2∧QTo w3 aZ z pv ((Q.remove 0).put t ((Q.rs t).handle ⟨kd,(f:Int),(t:Int),mt,ix,pr,cm,ok,es⟩)) (n+k*700000+700000) w2)
   have hfresh:∀b,wr.heap.size≤b→aZ b=none:=fun b hb=>by
    cases hlg:aZ b with
    |none=>rfl
    |some j=>exact absurd (hq.lt b j hlg) oy
   have hrl:(Q.remove 0).net.length+1=Q.net.length:=by
    show (Q.net.eraseIdx 0).length+1=_
    rw [List.length_eraseIdx,if_pos l0]
    omega
   obtain ⟨N,hN⟩:∃N,N=Q.n:=⟨_,rfl⟩;rw [←hN] at hgo ht hf5 h5;have ht2:(t:Int)<(N:Int):=by omega
   have h6:f<64:=by omega
   have h7:t<64:=by omega
   generalize (Q.rs t).handle ⟨kd,(f:Int),(t:Int),mt,ix,pr,cm,ok,es⟩=HH at*;have hl1:=O hl1;unfold Ms.v at hgo;obtain ⟨RL,hRL⟩:∃RL,RL=(Q.remove 0).net.length:=⟨_,rfl⟩;rw [←hRL] at hrl aiz;have hnl:=O hnl;obtain ⟨QL,hQL⟩:∃QL,QL=Q.net.length:=⟨_,rfl⟩;rw [←hQL] at b0 b1 hi2 z1 hrl hnl jF l0;have jD:∀W,Fr No wr W→Calls Tryz.prog 63 #[.pointer (some ⟨z,0,none⟩),.int .i64 0] W fun e w' =>e= .returned (.tuple #[])∧QAt w' aZ z pv (Q.remove 0) (n+k*700000)∧Fr (fun b=>aZ b=some 0∨aZ b=some 2) W w' :=jD;clear hfl hq hfr m1 m2 m3 m4 hm hml nS hxe rO hN hRL hQL;obtain ⟨lW,HGO,ajs,ajw,kH,anf,HRL⟩:=nC jD hgo aiz alq hfresh hiff hrl;clear jD hgo aiz alq hfresh hiff hrl
   go_upto_region 4 with fail
   obtain ⟨W1,hW1⟩:∃W1,W1=wr.alloc (.cells #[.int .i64 kd,.int .i64 (f:Int),.int .i64 (t:Int),.int .i64 mt,.int .i64 ix,.int .i64 pr,.int .i64 cm,.bool ok,.slice Ax es.length cx] TMs):=⟨_,rfl⟩;obtain ⟨g7,hg7⟩:∃g7,g7=wr.heap.size:=⟨_,rfl⟩;rw [←hW1,←hg7];have f1:Fr No wr W1:=by rw [hW1];exact aj _ _
   have hbm:Blk W1 g7 TMs (Ms.cells ⟨kd,(f:Int),(t:Int),mt,ix,pr,cm,ok,es⟩ (.slice Ax es.length cx)).toArray:=by rw [hW1,hg7];exact Blk.new _ _ _
   obtain ⟨hl7,F1,BM⟩:=bP (kH.out g7 oy) f1 hbm;have hz1:=nll hzw f1.size;have h71:=hbm.lt;clear b0 b1 b2 z1 e0 e1 e2 e3 e4 e5 e6 e7 e8 f1 hbm hW1 hg7 kH hzw hbl
   go_wp2_with fail
   refine (lW.out _ F1.out).mono ?_;rintro e w2 ⟨rfl,q2,f2⟩;have hb2:Blk w2 g7 TMs (Ms.cells ⟨kd,(f:Int),(t:Int),mt,ix,pr,cm,ok,es⟩ (.slice Ax es.length cx)).toArray:=BM.out.fr f2 fun hh=>by rw [hl7.out] at hh;simp at hh
   obtain ⟨y0,y1,y2,-⟩:=aL hb2;simp only at y0 y1 y2;have hz2:=nll hz1 f2.size;have h72:=hb2.lt;have a1:=qV (up / 2 ^ f);have a2:=qV (up / 2 ^ t);clear hb2
   by_cases hup:ae4 up ⟨kd,(f:Int),(t:Int),mt,ix,pr,cm,ok,es⟩
   ·obtain ⟨p1,p2⟩:=anf.out.1 hup
    have g1:(bits BinOp.and IntKind.i64 (up / 2 ^ f) 1 == 0)=false:=by rw [a1];simpa using p1
    have g2:(bits BinOp.and IntKind.i64 (up / 2 ^ t) 1 == 0)=false:=by rw [a2];simpa using p2
    have Q3:=O (show QAt w2.drew aZ z pv (Q.remove 0) (n+k*700000)∧Fr (fun b=>aZ b=some 0∨aZ b=some 2) W1 w2.drew from ⟨q2.ak (Fr.refl _ _).drew,f2.drew⟩);obtain ⟨br,cr,hnc,hcm,hks,hcall,fC⟩:=HGO.out W1 w2.drew g7 F1.out hl7.out BM.out Q3.out.1 Q3.out.2;have hd:=hks w2.drew ⟨fun _ _ _=>rfl,rfl⟩;have HE:=O fun W3 h3=>ajw.out hup W1 w2.drew W3 F1.out Q3.out.2 h3;unfold maxLen at hcm;clear HGO ajs ajw lW anf hup p1 p2 a1 a2 q2 f2;obtain ⟨HKS,dL,gq⟩:=bP hks hcall fC;clear hks hcall fC
    go_wp2_with fail
    clear y0 y1 y2 g1 g2
    go_region_held3 (fun V=>V.cell? ⟨z,0,none⟩=some (.slice (some ⟨br,0,none⟩) N cr)∧V.cell? ⟨g7,0,none⟩=some (.int .i64 kd)∧V.cell? ⟨g7,1,none⟩=some (.int .i64 (f:Int))∧V.cell? ⟨g7,2,none⟩=some (.int .i64 (t:Int))∧V.cell? ⟨g7,3,none⟩=some (.int .i64 mt)∧V.cell? ⟨g7,4,none⟩=some (.int .i64 ix)∧V.cell? ⟨g7,5,none⟩=some (.int .i64 pr)∧V.cell? ⟨g7,6,none⟩=some (.int .i64 cm)∧V.cell? ⟨g7,7,none⟩=some (.bool ok)∧V.cell? ⟨g7,8,none⟩=some (.slice Ax es.length cx)∧V.cell? ⟨br,t,none⟩=some (.pointer (some ⟨pv t,0,none⟩))) (first|exact hd|exact k1|exact k2) (first
     |(go_at_call 49;refine dL.out.mono ?_;rintro e v1 hc;obtain ⟨A1,c1',rfl,k1',hs⟩:=gq.out _ _ hc;have k1:=HKS.out _ k1';have HS2:=O hs;clear hc k1' hs)
     |(go_at_call 62;refine HS2.out.mono ?_;rintro e v2 ⟨rfl,k2',q2⟩;have k2:=HKS.out _ k2';have Q2:=O q2;clear k2' q2))
    have dP:=O (QTo.noted Q2.out);clear hd HKS k2 dL gq HS2
    go_wp2_with fail
    refine dP.out.mono ?_;rintro e v3 ⟨rfl,q3⟩;have QE:=O (HE.out _ q3);clear q3 dP HE Q2 Q3
    go_wp2_with fail
    refine ⟨⟨k+1,by omega,by go_num,QE.out.1⟩,?_⟩;have:=QE.out.2;have:=hnl.out
    simp [intOf]
    omega
   ·have T9:=O (ajs.out hup W1 w2 F1.out q2 f2)
    have hno:¬((up / 2 ^ f) % 2≠0∧(up / 2 ^ t) % 2≠0):=fun hh=>hup (anf.out.2 hh);clear HGO ajs ajw lW anf hup q2 f2
    by_cases p1:(up / 2 ^ f) % 2=0
    ·have g1:(bits BinOp.and IntKind.i64 (up / 2 ^ f) 1 == 0)=true:=by rw [a1];simpa using p1
     clear hno a1 a2 p1
     go_wp2_with fail
     refine ⟨⟨k,by omega,by go_num,T9.out.1⟩,?_⟩;have:=T9.out.2;have:=hnl.out;have:=HRL.out
     simp [intOf]
     omega
    ·have p2:(up / 2 ^ t) % 2=0:=Classical.byContradiction fun h2=>hno ⟨p1,h2⟩
     have g1:(bits BinOp.and IntKind.i64 (up / 2 ^ f) 1 == 0)=false:=by rw [a1];simpa using p1
     have g2:(bits BinOp.and IntKind.i64 (up / 2 ^ t) 1 == 0)=true:=by rw [a2];simpa using p2
     clear hno a1 a2 p1 p2
     go_wp2_with fail
     refine ⟨⟨k,by omega,by go_num,T9.out.1⟩,?_⟩;have:=T9.out.2;have:=hnl.out;have:=HRL.out
     simp [intOf]
     omega
  ·have T9:=O (show Flushes up q 0 Q k∧QTo w lab z pv Q (n+4000000000) wr from ⟨hfl _ _ (.stop Q k (by
    rcases Nat.eq_zero_or_pos Q.net.length with h0|h0
    ·exact .inl (List.eq_nil_of_length_eq_zero h0)
    ·exact .inr oy)),⟨aZ,hq.more oy,hl1,hfr⟩⟩)
   clear hfl hq hl1 hfr m1 m2 m3 m4 hnl
   by_cases h0:0<Q.net.length
   ·have b0:decide (0<Q.net.length)=true:=decide_eq_true h0
    have b1:decide ((0:Int)<(Q.net.length:Int))=true:=dtt;have k5:¬k<5000:=fun h=>hlt ⟨h0,h⟩;have b2:decide ((k:Int)<5000)=false:=dff;clear hlt
    go_wp2_with fail
    go_ret
    exact ⟨k,Q,rfl,hk,T9.out.1,T9.out.2⟩
   ·have b0:decide (0<Q.net.length)=false:=decide_eq_false h0
    have b1:decide ((0:Int)<(Q.net.length:Int))=false:=dff;clear hlt
    go_wp2_with fail
    go_ret
    exact ⟨k,Q,rfl,hk,T9.out.1,T9.out.2⟩
end
end
theorem yR:(Tryz.prog.info? TPR).map (fun i=>(i.zero,i.size,i.bytes))=some (some (.pointer none),1,8):=by kernel_rfl
def NewAt (w:World)(n z k:Nat)(W:World):Prop:=
 ∃(lab:Nat→Option Nat) (pv:Nat→Nat) (A:Option Addr) (c:Nat),(∀b j,lab b=some j→w.heap.size≤b∧b<W.heap.size)∧lab z=some 0∧Blk W z oO #[.slice A k c,.slice none 0 0,.slice none 0 0]∧Own W (part lab 1) TPR (.slice A k c) ((List.range k).map fun i=> .pointer (some ⟨pv i,0,none⟩))∧(∀i,i<k→RAt W (part lab (10+i)) (pv i) (dF i n) 0)∧Fr No w W
theorem NewAt.next {w wr W1 W' :World}{n z k p:Nat}{lab:Nat→Option Nat}{pv:Nat→Nat}{A:Option Addr}{c:Nat}{F:Nat→Prop}{v' :Value}
  (h1:∀b j,lab b=some j→w.heap.size≤b∧b<wr.heap.size) (h2:lab z=some 0) (h3:Blk wr z oO #[.slice A k c,.slice none 0 0,.slice none 0 0]) (h4:Own wr (part lab 1) TPR (.slice A k c) ((List.range k).map fun i=> .pointer (some ⟨pv i,0,none⟩)))
  (h5:∀i,i<k→RAt wr (part lab (10+i)) (pv i) (dF i n) 0) (h6:Fr No w wr) (hr:RAt W1 F p (dF k n) 0) (hF:∀i,F i→wr.heap.size≤i) (hf:Fr No wr W1)
  (ha:dV (W1.alloc (.cells #[.pointer (some ⟨p,0,none⟩)] TPR)) 0 TPR (.slice A k c) k ((List.range k).map fun i=> .pointer (some ⟨pv i,0,none⟩)) [.pointer (some ⟨p,0,none⟩)] 1 v' W'):
  NewAt w n z (k+1) (W'.setCell ⟨z,0,none⟩ v')∧Fr (part lab 1) W1 W' :=by
 classical
 have hf2:Fr No wr (W1.alloc (.cells #[.pointer (some ⟨p,0,none⟩)] TPR)):=hf.alloc _;obtain ⟨o1,f1⟩:=(h4.ak hf2).appended (by simp) rfl ha;obtain ⟨pv2,hpv2⟩:∃pv2:Nat→Nat,pv2=fun i=>if i=k then p else pv i:=⟨_,rfl⟩
 rw [show ((List.range k).map (fun i=>Value.pointer (some (⟨pv i,0,none⟩:Addr)))++[Value.pointer (some ⟨p,0,none⟩)])=(List.range (k+1)).map (fun i=>Value.pointer (some (⟨pv2 i,0,none⟩:Addr))) from by
  rw [List.range_succ,List.map_append,List.map_singleton,hpv2];simp only [if_true]
  congr 1
  apply List.map_congr_left
  intro i hi;rw [if_neg (by have:=List.mem_range.1 hi;omega)]] at o1
 have hlen:((List.range (k+1)).map (fun i=>Value.pointer (some (⟨pv2 i,0,none⟩:Addr)))).length=k+1:=by simp
 obtain ⟨A',c',hv,-⟩:=o1.form;rw [hlen] at hv;subst hv;have hsz:=hf.size;have hsa:(W1.alloc (.cells #[.pointer (some ⟨p,0,none⟩)] TPR)).heap.size=W1.heap.size+1:=by simp
 have hs1:=f1.size;have hzl:=(h1 z 0 h2).2;have hrl:=hr.lt;rw [hsa] at hs1;obtain ⟨dG,hlab⟩:∃dG:Nat→Option Nat,dG=fun b=>if b<wr.heap.size then lab b else if F b then some (10+k) else if b=W1.heap.size+1∧b<W'.heap.size then some 1 else none:=⟨_,rfl⟩
 have ho:∀b,b<wr.heap.size→dG b=lab b:=fun b hb=>by rw [hlab];exact if_pos hb
 have hold:∀j b,lab b=some j→dG b=some j:=fun j b hb=>by rw [ho b (h1 b j hb).2];exact hb
 have hfz:Fr (fun b=>b=z) W' (W'.setCell ⟨z,0,none⟩ (.slice A' (k+1) c')):=dx W' ⟨z,0,none⟩ _;have hlt2:∀b j,dG b=some j→w.heap.size≤b∧b<(W'.setCell ⟨z,0,none⟩ (.slice A' (k+1) c')).heap.size:=fun b j hb=>by
  have h6s:=h6.size;have h7s:=hfz.size;rw [hlab] at hb;simp only at hb
  split at hb
  ·have:=h1 b j hb
   omega
  ·split at hb
   ·have:=hrl b ‹_›
    omega
   ·split at hb
    ·omega
    ·cases hb
 have hne:∀i j:Nat,i≠j→∀b,lab b=some i→¬lab b=some j:=fun i j hij b hi hj=>by
  rw [hi] at hj;injection hj with hj;exact hij hj
 have hFn:∀b,F b→¬part lab 1 b:=fun b hb hh=>by
  have:=hF b hb;have:=(h1 b 1 hh).2
  omega
 refine ⟨⟨dG,pv2,A',c',hlt2,hold 0 z h2,?_,?_,fun i hi=> ?_,?_⟩,((aj W1 _).mono (G:=part lab 1) fun _ h=>h.elim).trans f1 fun b hb=> .inl hb⟩
 ·have hz2:Blk W' z oO #[.slice A k c,.slice none 0 0,.slice none 0 0]:=(h3.fr hf2 id).fr f1 (hne 0 1 oy z h2)
  exact (hz2.aU 0 _).conv rfl
 ·refine ((o1.fr hfz fun b hb e=> ?_).mono fun b hb=> ?_)
  ·rcases hb with hb|⟨hb,-⟩
   ·exact hne 1 0 oy b hb (e▸h2)
   ·rw [hsa] at hb;omega
  ·rcases hb with hb|⟨hb,hb2⟩
   ·exact hold 1 b hb
   ·rw [hsa] at hb
    show dG b=some 1
    rw [hlab];simp only;rw [if_neg oy,if_neg (fun hh=>by have:=hrl b hh;omega),if_pos ⟨hb,hb2⟩]
 ·by_cases hik:i=k
  ·subst hik
   have hpi:pv2 i=p:=by rw [hpv2];exact if_pos rfl
   rw [hpi];refine ((((hr.ak (aj _ _)).fr f1 hFn).fr hfz fun b hb e=> ?_).mono (fun b hb=> ?_) fun b hb=>(hlt2 b _ hb).2)
   ·have:=hF b hb
    omega
   ·show dG b=some (10+i)
    rw [hlab];simp only;rw [if_neg (by have:=hF b hb;omega),if_pos hb]
  ·have hpi:pv2 i=pv i:=by rw [hpv2];exact if_neg hik
   rw [hpi];exact ((((h5 i oy).ak hf2).fr f1 (hne (10+i) 1 oy)).fr hfz (fun b hb e=>hne (10+i) 0 oy b hb (e▸h2))).mono (hold (10+i)) fun b hb=>(hlt2 b _ hb).2
 ·have hfin:Fr No w W' :=(h6.ah hf2).trans f1 fun b hb=> .inr (h1 b 1 hb).1
  exact hfin.trans hfz fun b hb=> .inr (by have:=h1 z 0 h2;omega)
theorem NewAt.done {w W:World}{n z:Nat}(h:NewAt w n z n W)(h0:0<n)(h5:n≤5):∃lab pv,QAt W lab z pv (jJ n) 0∧(∀b j,lab b=some j→w.heap.size≤b)∧Fr No w W:=by
 obtain ⟨lab,pv,A,c,a1,a2,a3,a4,a5,a6⟩:=h;refine ⟨lab,pv,⟨fun b k hb=>(a1 b k hb).2,⟨A,c,.slice none 0 0,.slice none 0 0,[],a3,a4,?_,bG.nil _ _ _ _⟩,a2,fun i hi=>a5 i hi,lu.new h0 h5⟩,fun b j hb=>(a1 b j hb).1,a6⟩;exact ⟨bG.nil _ _ _ _,rfl,(fun i m x hm=>by cases hm),aG (show (2:Nat)≠3 by omega),fun b hb=>(a1 b 2 hb).2,fun b hb=>(a1 b 3 hb).2⟩
set_option maxHeartbeats 8000000 in
theorem aik (n:Nat)(w:World)(h5:n≤5)(hodd:n % 2=1):Calls Tryz.prog 22 #[.int .i64 (n:Int)] w fun e w' =>∃z lab pv,e= .returned (.tuple #[.pointer (some ⟨z,0,none⟩),.int .i64 0])∧QAt w' lab z pv (jJ n) 0∧(∀b j,lab b=some j→w.heap.size≤b)∧Fr No w w' :=by
 obtain ⟨i1,hi1,hz0,hz1,hz2⟩:=info_parts yR;obtain ⟨W0,hW0⟩:∃W0,W0=w.alloc (.cells #[.slice none 0 0,.slice none 0 0,.slice none 0 0] oO):=⟨_,rfl⟩;obtain ⟨z,hz⟩:∃z,z=w.heap.size:=⟨_,rfl⟩;have hb0:Blk W0 z oO #[.slice none 0 0,.slice none 0 0,.slice none 0 0]:=by rw [hz,hW0];exact Blk.new _ _ _
 have hzw:w.heap.size≤z:=by rw [hz];exact Nat.le_refl _
 have hstart:NewAt w n z 0 W0:=by
  refine ⟨fun b=>if b=z then some 0 else none,fun _=>0,none,0,fun b j hb=> ?_,if_pos rfl,hb0,Own.nil _ _ _,fun i hi=>absurd hi (Nat.not_lt_zero i),by rw [hW0];exact aj _ _⟩
  by_cases h:b=z
  ·rw [h];exact ⟨hzw,hb0.lt⟩
  ·simp only [if_neg h] at hb
   cases hb
 clear hzw;have hgl:=hb0.lt;clear hb0;obtain ⟨HW0,HZ,iw⟩:=bP hW0 hz hstart;clear hW0 hz hstart
 go_in
 go_upto_region 2 with fail
 rw [←HW0.out,←HZ.out];clear HW0
 go_wp2_with fail
 go_loopw [5] (fun i wr=>∃k:Nat,k≤n∧i= .int .i64 k∧NewAt w n z k wr) (fun i _=>n-(intOf i).toNat)
 case atStart=>exact ⟨0,Nat.zero_le _,rfl,iw.out⟩
 case round=>
  obtain ⟨k,hk,rfl,hrel⟩:=hrel
  by_cases hlt:k<n
  ·have b1:decide (k<n)=true:=decide_eq_true hlt
   have b2:decide ((k:Int)<(n:Int))=true:=dtt;have hnew:=ac3 k n wr hlt h5 hodd;obtain ⟨lab,pv,A,c,a1,a2,a3,a4,a5,a6⟩:=hrel;have hcap:=a4.cap;have hzl:=(a1 z 0 a2).2;have hz0' :=fun W (hf:Fr No wr W)=>(⟨(a3.fr hf fun h=>h).cell 0,(a3.fr hf fun h=>h).frozen 0⟩:W.cell? ⟨z,0,none⟩=some (.slice A k c)∧W.frozen? ⟨z,0,none⟩=false);have hz1' :=fun W W' (hf:Fr No wr W) (hf' :Fr (part lab 1) W W')=>(⟨((a3.fr hf fun h=>h).fr hf' (aG oy z a2)).cell 0,((a3.fr hf fun h=>h).fr hf' (aG oy z a2)).frozen 0⟩:W'.cell? ⟨z,0,none⟩=some (.slice A k c)∧W'.frozen? ⟨z,0,none⟩=false);have hown:=fun W (hf:Fr No wr W)=>(a4.ak hf).1;have hnext:=fun W1 W' p F v' hr hF hf ha=>NewAt.next (w:=w) (W1:=W1) (W' :=W') (p:=p) (F:=F) (v' :=v') a1 a2 a3 a4 a5 a6 hr hF hf ha;clear a1 a2 a3 a4 a5 a6;simp only [List.length_map,List.length_range] at hown;have nG:=O hnew;have aa3 :=O hz0';have aa2 :=O hz1';obtain ⟨HOWN,fJ⟩:=aO hown hnext;clear hnew hz0' hz1' hown hnext
   go_wp2_with fail
   refine nG.out.mono ?_;rintro e w1 ⟨p,F,rfl,r1,r2,r3⟩;obtain ⟨z1,y1⟩:=aa3.out _ r3;have hnx:=O fun W' v' ha=>fJ.out w1 W' p F v' r1 r2 r3 ha;have R3:=O r3;have adu:=nll hzl r3.size;clear r1 r2 r3 fJ aa3 nG
   go_wp2_with (at_builtin;refine ay _ rfl (.tmp 32) (.tmp 34) _ rfl 0 TPR i1 _ 8 Tryz.underlying102 hi1 hz0 hz1 hz2 rfl (.slice A k c) k ((List.range k).map fun i=> .pointer (some ⟨pv i,0,none⟩)) rfl (HOWN.out _ (R3.out.alloc _)) (w1.heap.size+1) (some ⟨w1.heap.size,0,none⟩) 1 1 [.pointer (some ⟨p,0,none⟩)] rfl (fun h=>by cases h) (Rd.new w1 _ TPR rfl) rfl (fun u hu=>by simp at hu;subst hu;rfl) mxl oy (Nat.zero_le _) ?_)
   intro v1 w2 happ;obtain ⟨A4,c4,rfl,n4⟩:=aC happ.1;clear n4;obtain ⟨t9,f9⟩:=hnx.out w2 _ happ;obtain ⟨x9,y9⟩:=aa2.out _ _ R3.out f9;have aj8:=nll adu f9.size;have T9:=O t9;clear happ t9 f9 hnx aa2 HOWN R3 z1 y1
   go_wp2_with fail
   go_roundw
   case rel=>exact ⟨k+1,by omega,by go_num,T9.out⟩
   case measure=>simp [intOf];omega
  ·obtain rfl:k=n:=by omega
   have b1:decide (k<k)=false:=by simp
   have hk0:((k:Int) == 0)=false:=by simp;omega
   have T9:=O (hrel.done oy h5);clear hrel
   go_wp2_with fail
   go_ret2
   obtain ⟨lab,pv,t1,t2,t3⟩:=T9.out;exact ⟨z,lab,pv,rfl,t1,t2,t3⟩
section
abbrev Ms.arr (m:Ms)(v:Value):Array Value:= #[.int .i64 m.kind,.int .i64 m.from_,.int .i64 m.to_,.int .i64 m.term,.int .i64 m.index,.int .i64 m.prev,.int .i64 m.commit,.bool m.ok,v]
section
variable {w w' :World}{F G H:Nat→Prop}{n:Nat}
theorem bF.cap {A:Option Addr}{c:Nat}{ms:List Ms}(h:bF w G (.slice A n c) ms):n≤c∧c≤maxLen:=by
 have hn:=h.len;obtain ⟨Gs,Ge,vs,h1,h2,h3⟩:=h;have:=h1.own;rw [←hn] at this;exact this.cap
def qW (w:World)(m:Ms)(v v' x y:Value)(W:World):Prop:=
 ∃g g',x= .pointer (some ⟨g,0,none⟩)∧y= .pointer (some ⟨g',0,none⟩)∧Blk W g TMs (m.arr v)∧Blk W g' TMs (m.arr v')∧Fr No w W
theorem qW.one {m:Ms}{v v' :Value}{W:World}(hf:Fr No w W):qW w m v v' (.pointer (some ⟨W.heap.size,0,none⟩)) (.pointer (some ⟨W.heap.size+1,0,none⟩)) ((W.alloc (.cells (m.arr v) TMs)).alloc (.cells (m.arr v') TMs)):=
 ⟨_,_,rfl,rfl,(Blk.new _ _ _).fr (aj _ _) id,Blk.new' _ _ _ _ (by simp),(hf.alloc _).alloc _⟩
theorem qW.two {m:Ms}{v v' :Value}{W:World}(hf:Fr No w W):qW w m v v' (.pointer (some ⟨W.heap.size+1,0,none⟩)) (.pointer (some ⟨W.heap.size,0,none⟩)) ((W.alloc (.cells (m.arr v') TMs)).alloc (.cells (m.arr v) TMs)):=
 ⟨_,_,rfl,rfl,Blk.new' _ _ _ _ (by simp),(Blk.new _ _ _).fr (aj _ _) id,(hf.alloc _).alloc _⟩
theorem qW.drew {m:Ms}{v v' x y:Value}{W:World}(h:qW w m v v' x y W):qW w m v v' x y W.drew:=by
 obtain ⟨g,g',h1,h2,h3,h4,h5⟩:=h;exact ⟨g,g',h1,h2,h3.dA,h4.dA,h5.drew⟩
set_option maxHeartbeats 8000000 in
theorem mK {A B:Option Addr}{c d:Nat}{ms:List Ms}(hA:bF w G (.slice A ms.length c) ms)(hB:bF w H (.slice B ms.length d) ms):
  Calls Tryz.prog 40 #[.slice A ms.length c,.slice B ms.length d] w fun e w' =>e= .returned (.bool true)∧Fr No w w' :=by
 obtain ⟨hM2,hM⟩:=hA.cap;obtain ⟨hM4,hM3⟩:=hB.cap;unfold maxLen at hM hM3;have ha:=fun i m (hi:ms[i]? =some m)=>hA.at_ hi;have hb:=fun i m (hi:ms[i]? =some m)=>hB.at_ hi;have t1:(ms.length != ms.length)=false:=by simp
 have t2:((ms.length:Int) != (ms.length:Int))=false:=by simp
 clear hA hB;obtain ⟨n,hn⟩:∃n,n=ms.length:=⟨_,rfl⟩;simp only [←hn] at hM2 hM4 t1 t2 ha hb ⊢;obtain ⟨HA,HB,HN⟩:=bP ha hb hn;clear ha hb hn
 go_in
 go_wp2_with fail
 go_loopw [5] (fun i wr=>∃k:Nat,k≤n∧i= .int .i64 k∧Fr No w wr) (fun i _=>n-(intOf i).toNat)
 case atStart=>exact ⟨0,Nat.zero_le _,rfl,Fr.refl _ _⟩
 case round=>
  obtain ⟨k,hk,rfl,hf⟩:=hrel
  by_cases hlt:k<n
  ·have b1:decide (k<n)=true:=by simpa using hlt
   have b2:decide ((k:Int)<(n:Int))=true:=by simp;omega
   have hlt2:(k:Int)<(n:Int):=by omega
   obtain ⟨m,hm⟩:∃m,ms[k]? =some m:=⟨_,List.getElem?_eq_getElem (by rw [←HN.out];exact hlt)⟩;obtain ⟨b,v,rfl,hbl,-,hE,hc⟩:=HA.out k m hm;obtain ⟨b',v',rfl,ar4,-,hE',hc'⟩:=HB.out k m hm;have hS:∀W,Fr No wr W→jH W b k m v∧jH W b' k m v' :=fun W hW=>⟨hc.ak hbl (hf.ah hW),hc'.ak ar4 (hf.ah hW)⟩;obtain ⟨Ax,cx,rfl,-⟩:=id hE;obtain ⟨Ay,cy,rfl,-⟩:=id hE';have hSL:=fun W (hW:Fr No w W)=>iJ (hE.ak hW) (hE'.ak hW);simp only [decide_true] at hSL;clear hE hE' hc hc' hm;obtain ⟨kd,mf,mto,mt,ix,pv,cm,ok,es⟩:=m;simp only at*;have hd:=hS wr.drew (Fr.refl No wr).drew;obtain ⟨HF,HS,HSL⟩:=bP hf hS hSL;clear hS hSL;clear hf
   go_upto_region 6 with fail
   go_cut [6,7] (fun x y wx=>qW wr ⟨kd,mf,mto,mt,ix,pv,cm,ok,es⟩ (.slice Ax es.length cx) (.slice Ay es.length cy) x y wx)
   case first=>
    go_region_held3 (fun V=>jH V b k ⟨kd,mf,mto,mt,ix,pv,cm,ok,es⟩ (.slice Ax es.length cx)∧jH V b' k ⟨kd,mf,mto,mt,ix,pv,cm,ok,es⟩ (.slice Ay es.length cy)) (first|exact hd|exact HS.out _ frz) (first|fail)
    all_goals
     go_wp2_with fail
     go_meet
     (try (with_reducible refine qW.drew ?_))
     first
      |(with_reducible refine qW.one ?_)
      |(with_reducible refine qW.two ?_)
     exact frz
   case rest=>
    obtain ⟨g,g',rfl,rfl,h1,h2,f2⟩:=hcut;have F2:=O (HF.out.ah f2);obtain ⟨c0,c1,c2,c3,c4,c5,c6,c7,c8⟩:=aL (m:=⟨kd,mf,mto,mt,ix,pv,cm,ok,es⟩) h1;obtain ⟨d0,d1,d2,d3,d4,d5,d6,d7,d8⟩:=aL (m:=⟨kd,mf,mto,mt,ix,pv,cm,ok,es⟩) h2;simp only at c0 c1 c2 c3 c4 c5 c6 c7 c8 d0 d1 d2 d3 d4 d5 d6 d7 d8;clear h1 h2 f2 hd
    go_wp2_with fail
    refine (HSL.out _ F2.out).mono ?_;rintro e w5 ⟨rfl,f5⟩;have F5:=O (F2.out.ah f5);clear f5
    go_wp2_with fail
    go_roundw
    case rel=>exact ⟨k+1,by omega,by go_num,F5.out⟩
    case measure=>simp [intOf];omega
  ·obtain rfl:k=n:=by omega
   have b1:decide (k<k)=false:=by simp
   have b2:decide ((k:Int)<(k:Int))=false:=by simp
   have HF:=O hf;clear hf
   go_wp2_with fail
   go_ret
   exact ⟨rfl,HF.out⟩
end
end
section
section
variable {w w' :World}{lab lab' :Nat→Option Nat}{z n m:Nat}{pv:Nat→Nat}{q q1:Qs}{F:Nat→Prop}
theorem iP.to1 {F:Nat→Prop}{p:Nat}{x:Rs×List Ms}{X:Int}{e:Ending}(h:iP w F p x X n e w'):∃A c,e= .returned (.tuple #[.slice A x.2.length c,.int .i64 X])∧aQ w F p x n (.returned (.slice A x.2.length c)) w' :=by
 obtain ⟨A,c,F',G,e1,h1⟩:=h;exact ⟨A,c,e1,A,c,F',G,rfl,h1⟩
theorem kK {r:Rs}{e:En}(h:r.fH e≠0):r.propose e=(r,[]):=by unfold Rs.propose;rw [if_neg h]
theorem yQ (q:Qs)(i:Nat):q.put i (q.rs i,[])=q:=by
 obtain ⟨n,rs,net,d⟩:=q;unfold Qs.put;simp only [Qs.mk.injEq,true_and,and_true];refine ⟨funext fun k=> ?_,rfl⟩
 by_cases hk:k=i
 ·subst hk;exact oU _ _ _
 ·exact upd_ne hk
set_option maxHeartbeats 8000000 in
theorem akx (h:QAt w lab z pv q n)(i:Nat)(hi:i<q.n)(num:Int)(e:En)(he:e.ok)(hsz:n+800000≤140737488355328):Calls Tryz.prog 26 #[.pointer (some ⟨z,0,none⟩),gZ 2 i num e] w (uU w lab z pv q n 2 i num e):=by
 have hpm:q.permits 2 (i:Int) num=true:=by unfold Qs.permits;simp;omega
 have hX:q.jh 2 (i:Int) num e=(q.rs i).fH e:=by unfold Qs.jh;simp [hpm]
 have hA:(q.rs i).fH e=0→q.act 2 (i:Int) num e=(q.put i ((q.rs i).propose e)).note:=fun h0=>by unfold Qs.act;simp [hX,h0]
 have hA2:(q.rs i).fH e≠0→q.act 2 (i:Int) num e=q.put i ((q.rs i).propose e):=fun h0=>by rw [kK h0,yQ];unfold Qs.act;simp [hX,h0]
 obtain ⟨W0,hW0⟩:∃W0,W0=w.alloc (.cells (eU 2 (i:Int) num e).toArray fE):=⟨_,rfl⟩;have hf0:Fr No w W0:=by rw [hW0];exact aj _ _
 obtain ⟨g,hg⟩:∃g,g=w.heap.size:=⟨_,rfl⟩;have hb0:Blk W0 g fE (eU 2 (i:Int) num e).toArray:=by rw [hg,hW0];exact Blk.new _ _ _
 have jE:=eF (h.ak hf0) 2 (i:Int) num e;rw [hpm] at jE;have hac:=fun W (hf:Fr No W0 W)=>aM (hb0.fr hf id);obtain ⟨br,cr,hnc,hcm,hb1,hbl,r0,r1⟩:=h.xD;have hzw:=h.lt z 0 h.z0;have hgn:lab g=none:=by
  cases hlg:lab g with
  |none=>rfl
  |some j=>exact absurd (h.lt g j hlg) oy
 have hgk:=fun W V (hf:Fr No W0 W) (hk:Keeps W lab z V) (o:Nat)=>hk.1 ⟨g,o,none⟩ (nll hb0.lt hf.size) (.inl hgn);have hks:=fun W V (hf:Fr No W0 W) (hk:Keeps W lab z V)=>(let ⟨_,a1,_,a3,a4,a5,a6,a7,a8,a9,a10,a11⟩:=aM (hb0.fr hf id);⟨hk.2.trans (((hf0.ah hf).cell (p:=⟨z,0,none⟩) hzw fun h=>h).trans r0),(hgk W V hf hk 1).trans a1,(hgk W V hf hk 3).trans a3,(hgk W V hf hk 4).trans a4,(hgk W V hf hk 5).trans a5,(hgk W V hf hk 6).trans a6,(hgk W V hf hk 7).trans a7,(hgk W V hf hk 8).trans a8,(hgk W V hf hk 9).trans a9,(hgk W V hf hk 10).trans a10,(hgk W V hf hk 11).trans a11,(hk.1 ⟨br,i,none⟩ (nll hbl (hf0.ah hf).size) (.inr hb1)).trans (((hf0.ah hf).cell (p:=⟨br,i,none⟩) hbl fun h=>h).trans (r1 i hi))⟩:V.cell? ⟨z,0,none⟩=some (.slice (some ⟨br,0,none⟩) q.n cr)∧V.cell? ⟨g,1,none⟩=some (.int .i64 i)∧V.cell? ⟨g,3,none⟩=some (.int .i64 e.kind)∧V.cell? ⟨g,4,none⟩=some (.int .i64 e.tick)∧V.cell? ⟨g,5,none⟩=some (.int .i64 e.aS)∧V.cell? ⟨g,6,none⟩=some (.int .i64 e.cell)∧V.cell? ⟨g,7,none⟩=some (.int .i64 e.other)∧V.cell? ⟨g,8,none⟩=some (.int .i64 e.epoch)∧V.cell? ⟨g,9,none⟩=some (.int .i64 e.from_)∧V.cell? ⟨g,10,none⟩=some (.int .i64 e.bA)∧V.cell? ⟨g,11,none⟩=some (.int .i64 e.n)∧V.cell? ⟨br,i,none⟩=some (.pointer (some ⟨pv i,0,none⟩)));have h5:=h.ok.five;obtain ⟨o1,o2,o3⟩:=h.ok.each i hi;have hcall:=fun W (hf:Fr No w W)=>qm ((h.ak hf).jN i hi) e he oy;have fC:=fun W W' x (hf:Fr No w W) hc=>(h.ak hf).sent (m:=n+128) hi (x:=(q.rs i).propose e) (e:=x) (w' :=W') oy hc (fQ _ e).1 (fQ _ e).2 (by have:=o1.nJ e he;rw [o3] at this;exact this) (o1.qj e he)
 have hturn:=fun W W' x (hf:Fr No w W) hc (hX0:(q.rs i).fH e≠0)=>(let ⟨_,_,lab',_,_,_,b2,_,_,b5,b6⟩:=(h.ak hf).turned (m:=n+128) hi (x:=(q.rs i).propose e) (e:=x) (w' :=W') oy hc (fQ _ e).1 (fQ _ e).2;⟨lab',by rw [kK hX0] at b2 ⊢;exact b2,b5,b6.mono fun b hb=>by
  have hb:lab b=some (10+i):=hb;rw [hb];simp⟩:QTo W lab z pv (q.put i ((q.rs i).propose e)) (n+128) W')
 have hend:=fun W W' qq (hf:Fr No w W) (hq:QTo W lab z pv qq (n+128) W')=>QTo.after (n:=n+700000) hf h.lt (hq.more oy);have hi2:(i:Int)<(q.n:Int):=by omega
 have hzl:z<W0.heap.size:=nll (h.lt z 0 h.z0) hf0.size;obtain ⟨c0,c1,c2,c3,c4,c5,c6,c7,c8,c9,c10,c11⟩:=hac W0 (Fr.refl _ _);have hgl:=hb0.lt;unfold maxLen at hcm;unfold uU;rw [hX];have FF:=O hf0;obtain ⟨Y,hY⟩:∃Y,Y=(q.rs i).propose e:=⟨_,rfl⟩;obtain ⟨XX,hXX⟩:∃XX,XX=(q.rs i).fH e:=⟨_,rfl⟩;obtain ⟨AQ,hAQ⟩:∃AQ,AQ=q.act 2 (i:Int) num e:=⟨_,rfl⟩;rw [←hAQ,←hXX];rw [←hY,←hXX] at hcall;rw [←hAQ,←hXX,←hY] at hA hA2;simp only [←hY,←hXX] at fC hturn;obtain ⟨ek,ti,te,ce,ot,ep,fr,un,nn⟩:=e;simp only [eU] at hW0;simp only at c3 c4 c5 c6 c7 c8 c9 c10 c11 hks;unfold gZ at jE ⊢;unfold En.v at hcall;clear h hpm hX hb0 hf0 o1 o2 o3 hgk hXX hY hAQ he;obtain ⟨ru,HAC,HKS,dL,gq,aev,dZ,HW0,HG,HA,HA2⟩:=xU jE hac hks hcall fC hturn hend hW0 hg hA hA2;clear jE hac hks hcall fC hturn hend hW0 hg hA hA2
 go_in
 go_upto_region 1 with fail
 rw [←HW0.out,←HG.out]
 go_wp2_with fail
 refine ru.out.mono ?_;rintro e w1 ⟨rfl,f1⟩;obtain ⟨d0,d1,d2,-⟩:=HAC.out w1 f1;have F1:=O (FF.out.ah f1).drew;have hd:=HKS.out w1.drew w1.drew f1.drew ⟨fun _ _ _=>rfl,rfl⟩;have HKT:=O fun V (hk:Keeps w1.drew lab z V)=>HKS.out w1.drew V f1.drew hk;have hz1:z<w1.heap.size:=nll hzl f1.size;have hg1:g<w1.heap.size:=nll hgl f1.size;have mq:=O (dL.out _ F1.out);have ny:=O fun W' x=>gq.out _ W' x F1.out;have aix:=O fun W' x=>aev.out _ W' x F1.out;clear c0 c1 c2 c3 c4 c5 c6 c7 c8 c9 c10 c11 f1 HKS HAC dL gq aev ru r0 r1
 go_wp2_with fail
 go_region_held3 (fun V=>V.cell? ⟨z,0,none⟩=some (.slice (some ⟨br,0,none⟩) q.n cr)∧V.cell? ⟨g,1,none⟩=some (.int .i64 i)∧V.cell? ⟨g,3,none⟩=some (.int .i64 ek)∧V.cell? ⟨g,4,none⟩=some (.int .i64 ti)∧V.cell? ⟨g,5,none⟩=some (.int .i64 te)∧V.cell? ⟨g,6,none⟩=some (.int .i64 ce)∧V.cell? ⟨g,7,none⟩=some (.int .i64 ot)∧V.cell? ⟨g,8,none⟩=some (.int .i64 ep)∧V.cell? ⟨g,9,none⟩=some (.int .i64 fr)∧V.cell? ⟨g,10,none⟩=some (.int .i64 un)∧V.cell? ⟨g,11,none⟩=some (.int .i64 nn)∧V.cell? ⟨br,i,none⟩=some (.pointer (some ⟨pv i,0,none⟩))) (first|exact hd|exact k1) (first
  |(go_at_call 34;refine mq.out.mono ?_;rintro e v1 hc;obtain ⟨A1,c1',rfl,hc1⟩:=iP.to1 hc;obtain ⟨A2,c2',e2,k1',hs⟩:=ny.out _ _ hc1;injection e2 with e2;injection e2 with q1 q2 q3;subst q1 q3;have k1:=HKT.out _ k1';have HS2:=O hs;have HT2:=O (aix.out _ _ hc1);clear hc hc1 k1' hs q2))
 by_cases hx0:XX=0
 ·have HAA:=O (HA.out hx0)
  subst hx0;clear hd HKT d0 d1 d2 k1 mq ny aix HT2 HA HA2
  go_wp2_with fail
  refine HS2.out.mono ?_;rintro e v2 ⟨rfl,-,q2⟩;have dP:=O (QTo.noted q2);clear q2 HS2
  go_wp2_with fail
  refine dP.out.mono ?_;rintro e v3 ⟨rfl,q3⟩;have Q3:=O (dZ.out _ _ _ F1.out q3);clear q3 dP dZ
  go_wp2_with fail
  go_ret
  exact ⟨rfl,by rw [HAA.out];exact Q3.out⟩
 ·have hx1:decide (XX=0)=false:=by simpa using hx0
  obtain ⟨HAA,Q3⟩:=aO (HA2.out hx0) (dZ.out _ _ _ F1.out (HT2.out hx0));clear hd HKT d0 d1 d2 k1 mq ny aix HT2 HA HA2 HS2 dZ
  go_wp2_with fail
  go_ret
  exact ⟨rfl,by rw [HAA.out];exact Q3.out⟩
end
end
section
section
variable {w w' :World}{lab lab' :Nat→Option Nat}{z n m:Nat}{pv:Nat→Nat}{q q1:Qs}{F:Nat→Prop}
theorem am3 (h:QAt w lab z pv q n)(kind who num:Int)(e:En)(he:e.ok)(hsz:n+800000≤140737488355328):Calls Tryz.prog 26 #[.pointer (some ⟨z,0,none⟩),gZ kind who num e] w (uU w lab z pv q n kind who num e):=by
 cases hp:q.permits kind who num with
 |false=>exact ail h kind who num e hp
 |true=>
  rcases jW hp with hk|hk
  ·obtain ⟨h0,h1⟩:=mg hp hk
   obtain ⟨i,rfl⟩:=Int.eq_ofNat_of_zero_le h0
   rcases hk with rfl|rfl|rfl|rfl
   ·exact aky h i oy num e hsz
   ·exact akx h i oy num e he hsz
   ·exact akw h i oy num e hsz
   ·exact aks h i oy num e
  ·obtain ⟨h0,h1⟩:=jA hp hk
   obtain ⟨i,rfl⟩:=Int.eq_ofNat_of_zero_le h0
   rcases hk with rfl|rfl|rfl
   ·exact akv h who i oy e hsz
   ·exact aku h who i oy e hsz
   ·exact akt h who i oy e
end
end
end Go.Proofs.YtjnfmfmglehmbaaGreat
