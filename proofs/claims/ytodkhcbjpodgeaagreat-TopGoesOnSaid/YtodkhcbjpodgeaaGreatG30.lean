/-
  A follower takes a message: the walk.
-/
import Derived.Test.YtodkhcbjpodgeaaGreatG29
namespace Go.Proofs.YtodkhcbjpodgeaaGreat
open Go.ChangeShapes Go.WideShapes Go.ChangeAt Go.RowKit
set_option linter.unusedVariables false
set_option maxRecDepth 100000
set_option maxHeartbeats 4000000
set_option linter.unusedSimpArgs false
variable {w w' :World}{F G:Nat→Prop}
theorem iV.frm {w2:World}{f p:Nat}{s a:Int}{c:Kp}{W:World}(h:iV w2 F f p s a c W):Fr (fun i=>F i∨i=f) w2 W:=by
 obtain ⟨b,F',k,s1,g⟩:=h;exact g
theorem iV.cells {w2:World}{f p:Nat}{s a:Int}{c:Kp}{W:World}(h:iV w2 F f p s a c W):(W.cell? ⟨f,0,none⟩=some (.pointer (some ⟨p,0,none⟩))∧W.cell? ⟨f,1,none⟩=some (.int .i64 s)∧W.cell? ⟨f,2,none⟩=some (.int .i64 a))∧W.frozen? ⟨f,1,none⟩=false∧W.frozen? ⟨f,2,none⟩=false:=⟨aft h.1,h.1.frozen 1,h.1.frozen 2⟩
theorem iV.ag1 {w2 w3:World}{F' :Nat→Prop}{f p:Nat}{s a:Int}{c:Kp}{W:World}(h:iV w3 F' f p s a c W)(hF:∀i,F' i→F i∨w2.heap.size≤i)(hfr:Fr (fun i=>F i∨i=f) w2 w3):iV w2 F f p s a c W:=by
 obtain ⟨b,F2,k,s1,g⟩:=h;refine ⟨b,F2,k,fun i hi=> ?_,hfr.trans g fun i hi=> ?_⟩
 ·rcases s1 i hi with h|h
  ·exact hF i h
  ·exact .inr (Nat.le_trans hfr.size h)
 ·rcases hi with h|h
  ·rcases hF i h with h|h
   ·exact .inl (.inl h)
   ·exact .inr h
  ·exact .inl (.inr h)
set_option maxHeartbeats 16000000 in
theorem ab5 {f p:Nat}{c:Kp}{seen agr:Int}(h:aM w F p c)(hB:KpB c)(hb:Blk w f TFw #[.pointer (some ⟨p,0,none⟩),.int .i64 seen,.int .i64 agr])(hf:¬F f)(m:Sh){A:Option Addr}{cc:Nat}(hr:∀W,Fr (fun i=>F i∨i=f) w W→Rd W W.heap.size A (chV m.cs))(hA:A=none→m.cs.length=0)(hlc:m.cs.length≤cc)(hcm:cc≤maxLen)(hsh:shB m=true)(hse:seen≤m.ep):
  Calls Tryz.prog 26 #[.pointer (some ⟨f,0,none⟩),.agg #[.int .i64 m.ep,.int .i64 m.sq,.int .i64 m.bf,.slice A m.cs.length cc]] w (ax1 w F f p (bS seen agr c m)):=by
 have hfw:f<w.heap.size:=hb.lt;have hval:=fun W (hW:Fr (fun i=>F i∨i=f) w W)=>yX m (hr W hW) hA hlc hcm hsh;have hFT:bS seen agr c m=if (c.h.length:Int)<m.sq then ⟨⟨m.ep,c.h.length,false⟩,0,m.ep,agr,c⟩
  else if !uJ c.h m.sq m.bf then ⟨⟨m.ep,(c.h.findIdx fun x=>decide (x.ep=(c.h.getD (m.sq-1).toNat ch0).ep):Nat),false⟩,0,m.ep,agr,c⟩
  else ⟨⟨m.ep,(gK c.h m.cs (if agr<m.ep then aO c m.sq.toNat else c) m.sq).2,true⟩,0,m.ep,if agr<m.ep then m.ep else agr,(gK c.h m.cs (if agr<m.ep then aO c m.sq.toNat else c) m.sq).1⟩:=by
  unfold bS;rw [hsh,if_neg (by simp),if_neg oy]
 generalize bS seen agr c m=FT at hFT ⊢;have hsq:0≤m.sq∧m.sq≤4096:=by
  simp only [shB,btw,Bool.and_eq_true,decide_eq_true_eq] at hsh;exact hsh.1.1.1.1.2
 have hz0:m.sq=0→m.bf=0:=by
  simp only [shB,btw,Bool.and_eq_true,decide_eq_true_eq] at hsh;exact hsh.1.1.2.1
 have hxs:∀(i:Nat) (x:Ch),m.cs[i]? =some x→chB x=true∧x.sq=m.sq+1+(i:Int):=by
  simp only [shB,btw,Bool.and_eq_true,decide_eq_true_eq] at hsh;intro i x hx;have:=agy m.cs 0 m.bf hsh.2 i x hx
  rwa [Nat.zero_add] at this
 have hn8:m.cs.length≤8:=by
  simp only [shB,btw,Bool.and_eq_true,decide_eq_true_eq] at hsh;exact hsh.1.2
 obtain ⟨ep,sq,bf,cs⟩:=m;simp only at*;obtain ⟨w2,hw2⟩:∃w2,w2=(w.alloc (.cells #[.int .i64 ep,.int .i64 sq,.int .i64 bf,.slice A cs.length cc] TSh)).alloc (.cells #[.int .i64 0,.int .i64 0,.bool false] THd):=⟨_,rfl⟩;obtain ⟨g3,hg3⟩:∃g,g=w.heap.size:=⟨_,rfl⟩;obtain ⟨g4,hg4⟩:∃g,g=w.heap.size+1:=⟨_,rfl⟩;have f12:Fr No w w2:=by rw [hw2];exact (aj _ _).alloc _
 have b3:Blk w2 g3 TSh #[.int .i64 ep,.int .i64 sq,.int .i64 bf,.slice A cs.length cc]:=by rw [hw2,hg3];exact (Blk.new _ _ _).fr (aj _ _) id
 have b4:Blk w2 g4 THd #[.int .i64 0,.int .i64 0,.bool false]:=by rw [hw2,hg4];exact Blk.newG _ _ _ (by simp)
 have hlt:=h.lt;have ams:=fun W (hW:Fr (fun i=>F i∨i=f) w2 W)=>(⟨b3.fr hW (fun e=>by rcases e with e|e;exact absurd (hlt _ e) oy;omega),b4.fr hW (fun e=>by rcases e with e|e;exact absurd (hlt _ e) oy;omega)⟩:_∧_);have st0:iV w2 F f p seen agr c w2:=⟨hb.fr f12 id,F,h.au f12,fun i h=> .inl h,Fr.refl _ _⟩;have hfw2:f<w2.heap.size:=nll hfw f12.size;have hfin:=fun (s a:Int) (d:Kp) (W:World) (hW:iV w2 F f p s a d W)=>ala hW f12 hlt hfw (g4:=g4) oy b4.lt (ams W hW.frm).2;have hrow:=fun W (hW:Fr (fun i=>F i∨i=f) w2 W)=>hr W ((f12.mono fun _ h=>h.elim).trans hW fun i h=> .inl h);have hv2:=hval w2 (f12.mono fun _ h=>h.elim);have d1:decide (ep<seen)=false:=dff;have awr:w.heap.size≤g3:=by omega
 have atq:g3<w2.heap.size:=b3.lt;obtain ⟨ST,F12⟩:=aN st0 (f12.mono fun _ h=>h.elim:Fr (fun i=>F i∨i=f) w w2);clear hb st0 b3 b4 f12 hr hval hsh hse;obtain ⟨HFT,HXS,HW2,HG3,HG4,HLT,akc,eu,zG,HV2,HZ0,H⟩:=nS hFT hxs hw2 hg3 hg4 hlt ams hfin hrow hv2 hz0 h;obtain ⟨HB,HA⟩:=aN hB hA;clear hFT hxs hw2 hg3 hg4 hlt ams hfin hrow hv2 hz0 h hB hA
 go_in
 go_upto_region 1 with fail
 rw [←HG4.out,←HG3.out,←HW2.out];obtain ⟨x0,x1,x2,x3,_⟩:=aR (akc.out _ ST.out.frm).1
 go_wp2_with fail
 refine HV2.out.mono ?_;rintro r v3 ⟨rfl,f3⟩;have ST3:=O (ST.out.step f3);clear x0 x1 x2 x3 f3 ST HV2;obtain ⟨x0,x1,x2,x3,_⟩:=aR (akc.out _ ST3.out.frm).1;obtain ⟨⟨c0,c1,c2⟩,z1,z2⟩:=ST3.out.cells
 go_upto_region 3 with fail
 go_quiet (fail)
 have f4:Fr No v3 (v3.drewN nq):=(Fr.refl _ _).drewN _;generalize v3.drewN nq=v4 at f4 ⊢;have ST4:=O (ST3.out.step f4);clear x0 x1 x2 x3 c0 c1 c2 z1 z2 f4 ST3 d1;obtain ⟨x0,x1,x2,x3,_⟩:=aR (akc.out _ ST4.out.frm).1;obtain ⟨⟨c0,c1,c2⟩,z1,z2⟩:=ST4.out.cells
 go_upto_region 6 with fail
 have hs5:Fr (fun i=>i=f) v4 (v4.setCell ⟨f,1,none⟩ (.int .i64 ep)):=(Fr.refl (fun i=>i=f) v4).setCell (p:=⟨f,1,none⟩) (.inl rfl) _;have hb5:Blk (v4.setCell ⟨f,1,none⟩ (.int .i64 ep)) f TFw #[.pointer (some ⟨p,0,none⟩),.int .i64 ep,.int .i64 agr]:=Blk.cv (ST4.out.1.aC 1 _) (by simp);generalize v4.setCell ⟨f,1,none⟩ (.int .i64 ep)=v5 at hs5 hb5 ⊢;have ST5:=O (ST4.out.aC hf hfw2 hs5 hb5);clear x0 x1 x2 x3 c0 c1 c2 z1 z2 hs5 hb5 ST4;obtain ⟨x0,x1,x2,x3,_⟩:=aR (akc.out _ ST5.out.frm).1;obtain ⟨⟨c0,c1,c2⟩,z1,z2⟩:=ST5.out.cells;obtain ⟨b5_,F',hcp,hsub,aq1⟩:=ST5.out;have hlt' :=hcp.lt;obtain ⟨HCP,ava⟩:=aN hcp hlt';clear hcp hlt'
 go_wp2_with fail
 refine (bQ HCP.out).mono ?_;rintro r v6 ⟨rfl,rfl⟩;obtain ⟨y0,y1,y2,y3,y4,y5⟩:=sJ (akc.out _ ST5.out.frm).2
 by_cases hlen:(c.h.length:Int)<sq
 ·have HQ:=O (HFT.out.trans (if_pos hlen))
  go_wp2_with fail
  obtain ⟨q1,q2⟩:=eu.out _ _ _ _ ST5.out (.int .i64 ep) (.int .i64 (c.h.length:Int)) (.bool false);refine bodyPost_ret (jl 4 5 _ _ _ _ _ q1 rfl rfl rfl) rfl ?_;rw [HQ.out];exact ⟨rfl,q2⟩
 obtain ⟨k,rfl⟩:∃k:Nat,sq=(k:Int):=⟨sq.toNat,by omega⟩;have hkl:k≤c.h.length:=by omega
 have hkl' :(k:Int)≤(c.h.length:Int):=by omega
 have HF2:=O (HFT.out.trans (if_neg hlen));clear HFT hlen
 go_wp2_with fail
 refine (ko HCP.out (by have:=HB.out.h;omega) 0 oy).mono ?_;rintro r v7 ⟨A7,c7,rfl,o7,f7⟩;rw [Nat.sub_zero,List.drop_zero] at o7;rw [Nat.sub_zero];have hfF:¬F' f:=fun e=>by rcases hsub f e with h|h;exact hf h;omega
 have f57:Fr (fun i=>F i∨i=f) w2 v7:=aq1.trans f7 fun _ h=>h.elim;have aqk:∀W,Fr (fun i=>F' i∨i=f) v7 W→Fr (fun i=>F i∨i=f) w2 W:=fun W hW=>f57.trans hW fun i hi=>by
  rcases hi with h|h
  ·rcases hsub i h with h|h
   ·exact .inl (.inl h)
   ·exact .inr h
  ·exact .inl (.inr h)
 have amr:=fun W hW=>akc.out W (aqk W hW);have aml:=fun W hW=>zG.out W (aqk W hW);have aqs:=fun W (hW:Fr (fun i=>F' i∨i=f) v7 W)=>(o7.fr' hW (fun b hb e=>by
  have:=o7.2 b hb
  rcases e with e|e
  ·have:=ava.out b e;omega
  ·have:=aq1.size;omega)).rd
 have hcap:=o7.cap;have am1:=fun (s a:Int) (d:Kp) (W:World) (hW:iV v7 F' f p s a d W)=>eu.out s a d W (hW.ag1 hsub f57);have aqz:f<v7.heap.size:=nll hfw2 f57.size;have st7:iV v7 F' f p ep agr c v7:=⟨b5_.fr f7 id,F',HCP.out.au f7,fun i h=> .inl h,Fr.refl _ _⟩;have aqr:=uI (aqs v7 (Fr.refl _ _)) hcap.1 hcap.2 hkl bf;have azc:g3<v7.heap.size:=nll atq f57.size;obtain ⟨HCAP,ST7,jO,arw,ar4,ake⟩:=oK hcap st7 amr aml aqs am1;clear x0 x1 x2 x3 c0 c1 c2 z1 z2 y0 y1 y2 y3 y4 y5 b5_ hsub aq1 hcap amr aml aqs am1 st7 aqk f57 f7 o7 ST5 akc zG eu HCP ava F12 atq hfw2 hfw awr;obtain ⟨x0,x1,x2,x3,_⟩:=aR (jO.out _ ST7.out.frm).1;generalize hmb:uJ c.h (k:Int) bf=mb at aqr;obtain ⟨HMB,au9⟩:=aN hmb aqr;clear hmb aqr
 go_wp2_with fail
 refine au9.out.mono ?_;rintro r v8 ⟨rfl,f8⟩;have ST8:=O (ST7.out.step f8);clear x0 x1 x2 x3 f8 ST7 au9;obtain ⟨x0,x1,x2,x3,_⟩:=aR (jO.out _ ST8.out.frm).1;obtain ⟨y0,y1,y2,y3,y4,y5⟩:=sJ (jO.out _ ST8.out.frm).2;obtain ⟨⟨c0,c1,c2⟩,z1,z2⟩:=ST8.out.cells
 cases mb
 ·have hk0:k≠0:=fun e=>by
   have:=HMB.out;rw [e] at this;have hz:=HZ0.out (by rw [e];rfl);unfold uJ at this;rw [if_pos ⟨rfl,hz⟩] at this
   cases this
  obtain ⟨n,hn⟩:∃n,k=n+1:=⟨k-1,by omega⟩;have hk1:(k:Int)-1=(n:Int):=by omega
  have hk5:(n:Int)<(c.h.length:Int):=by omega
  obtain ⟨b,off,x,rfl,hx,hcl⟩:=(ar4.out v8 ST8.out.frm).lI (i:=n) oy;have e0:=(hcl v8 (Fr.refl _ _)).1;have hidx:=fun (V:World) (hV:Fr No v8 V) (g:Nat) (hg:V.cell? ⟨g,0,none⟩=some (.int .i64 x.ep)) (hgl:g<V.heap.size)=>amg (w:=V) (ar4.out V (ST8.out.step hV).frm) HCAP.out.1 HCAP.out.2 g x.ep hg hgl;have atg:zA (fun t=>t.ep == x.ep) c.h=((c.h.findIdx fun x=>decide (x.ep=(c.h.getD ((k:Int)-1).toNat ch0).ep):Nat):Int):=by
   rw [show ((k:Int)-1).toNat=n from by omega,List.getD_eq_getElem?_getD,hx,Option.getD_some];unfold zA;rw [if_pos (List.any_eq_true.2 ⟨x,List.mem_of_getElem? hx,by simp⟩)]
   rfl
  rw [atg] at hidx;have HQ:=O (HF2.out.trans (if_pos (by rw [HMB.out];rfl)));generalize (c.h.findIdx fun x=>decide (x.ep=(c.h.getD ((k:Int)-1).toNat ch0).ep))=J at hidx HQ;generalize x.ep=xe at e0 hidx;have ave:=O hidx;clear hidx atg hcl hx hn hk0
  go_upto_region 12 with fail
  have hbx:(v8.alloc (.cells #[.int .i64 xe] TI_)).cell? ⟨v8.heap.size,0,none⟩=some (.int .i64 xe):=(Blk.new v8 TI_ #[.int .i64 xe]).cell 0;have hi9:=ave.out (v8.alloc (.cells #[.int .i64 xe] TI_)) (aj _ _) v8.heap.size hbx (by simp);have ST9:=O (ST8.out.step (aj v8 (.cells #[.int .i64 xe] TI_)));generalize v8.alloc (.cells #[.int .i64 xe] TI_)=v9 at hi9 ST9 ⊢;have HI9:=O hi9;clear hi9 hbx x0 x1 x2 x3 c0 c1 c2 z1 z2 y0 y1 y2 y3 y4 y5 e0 ave
  go_wp2_with fail
  refine HI9.out.mono ?_;rintro r v10 ⟨rfl,f10⟩;have agm:=O (ST9.out.step f10);clear f10 ST9 HI9;obtain ⟨x0,x1,x2,x3,_⟩:=aR (jO.out _ agm.out.frm).1;obtain ⟨y0,y1,y2,y3,y4,y5⟩:=sJ (jO.out _ agm.out.frm).2
  go_wp2_with fail
  obtain ⟨q1,q2⟩:=ake.out _ _ _ _ agm.out (.int .i64 ep) (.int .i64 (J:Int)) (.bool false);refine bodyPost_ret (jl 4 5 _ _ _ _ _ q1 rfl rfl rfl) rfl ?_;rw [HQ.out];exact ⟨rfl,q2⟩
 ·have HF3:=O (HF2.out.trans (if_neg (by rw [HMB.out];simp)))
  clear HF2 HMB HZ0;have hz3:((k:Int)).toNat=k:=by omega
  go_upto_region 14 with fail
  go_quiet (fail)
  have f9:Fr No v8 (v8.drewN nq):=(Fr.refl _ _).drewN _;generalize v8.drewN nq=v9 at f9 ⊢;have ST9:=O (ST8.out.step f9);clear f9 x0 x1 x2 x3 c0 c1 c2 z1 z2 y0 y1 y2 y3 y4 y5 ST8;obtain ⟨x0,x1,x2,x3,_⟩:=aR (jO.out _ ST9.out.frm).1;obtain ⟨⟨c0,c1,c2⟩,z1,z2⟩:=ST9.out.cells;obtain ⟨a1,ha1⟩:∃a1,a1=(if agr<ep then ep else agr):=⟨_,rfl⟩;rw [←ha1] at HF3
  by_cases hag:agr<ep
  focus
   have hcc:(if agr<ep then aO c (k:Int).toNat else c)=aO c k:=by rw [if_pos hag,hz3]
   have hac:a1=ep:=ha1.trans (if_pos hag);rw [hcc] at HF3
   go_upto_region 15 with fail
   have hs9:∀V,Fr No v9 V→(V.cell? ⟨f,0,none⟩=some (.pointer (some ⟨p,0,none⟩))∧V.cell? ⟨g3,1,none⟩=some (.int .i64 (k:Int))):=fun V hV=>⟨(ST9.out.step hV).cells.1.1,(aR (jO.out _ (ST9.out.step hV).frm).1).2.1⟩;have as5:∀(V:World) (a:Int) (d:Kp),iV v7 F' f p ep a d V→(V.cell? ⟨f,0,none⟩=some (.pointer (some ⟨p,0,none⟩))∧V.cell? ⟨g3,1,none⟩=some (.int .i64 (k:Int))):=fun V a d hV=>⟨hV.cells.1.1,(aR (jO.out _ hV.frm).1).2.1⟩;have htr:∀V,Fr No v9 V→Calls Tryz.prog 51 #[.pointer (some ⟨p,0,none⟩),.int .i64 (k:Int)] V fun e V' =>e= .returned (.int .i64 0)∧iV v7 F' f p ep agr (aO c k) V' :=fun V hV=>by
    obtain ⟨F2,k2,_,hto⟩:=ST9.out.call hfF aqz hV;exact (oN k2 k hkl (by have:=HB.out.h;omega) HB.out.ch).mono fun e V' ⟨h1,h2⟩=>⟨h1,(hto _ _ h2).1⟩
   obtain ⟨HS9,au4,HTR⟩:=bC hs9 as5 htr;clear hs9 as5 htr
   go_region_held3 (fun V=>V.cell? ⟨f,0,none⟩=some (.pointer (some ⟨p,0,none⟩))∧V.cell? ⟨g3,1,none⟩=some (.int .i64 (k:Int))) (first|(refine HS9.out _ ?_;(with_reducible ((repeat (first|assumption|exact Fr.refl _ _|refine Fr.alloc ?_ _|refine Fr.drew ?_|refine Fr.drewN ?_ _|refine Fr.setCell ?_ (.inr (Nat.le_refl _)) _));done)))|(exact au4.out _ _ _ Q10)) (first
    |(go_at_call 51;refine (HTR.out _ (by with_reducible ((repeat (first|assumption|exact Fr.refl _ _|refine Fr.alloc ?_ _|refine Fr.drew ?_|refine Fr.drewN ?_ _));done))).mono ?_;rintro r2 v10 ⟨rfl,Q10⟩))
   have agm:=O Q10;clear x0 x1 x2 x3 c0 c1 c2 z1 z2 Q10 ST9 HS9 au4 HTR;obtain ⟨x0,x1,x2,x3,_⟩:=aR (jO.out _ agm.out.frm).1;obtain ⟨⟨c0,c1,c2⟩,z1,z2⟩:=agm.out.cells
   go_upto_region 17 with fail
   have aqh:Fr (fun i=>i=f) v10 (v10.setCell ⟨f,2,none⟩ (.int .i64 ep)):=(Fr.refl (fun i=>i=f) v10).setCell (p:=⟨f,2,none⟩) (.inl rfl) _;have aq3:Blk (v10.setCell ⟨f,2,none⟩ (.int .i64 ep)) f TFw #[.pointer (some ⟨p,0,none⟩),.int .i64 ep,.int .i64 ep]:=Blk.cv (agm.out.1.aC 2 _) (by simp);generalize v10.setCell ⟨f,2,none⟩ (.int .i64 ep)=v11 at aqh aq3 ⊢;have akv:Hid (iV v7 F' f p ep a1 (aO c k) v11):=O (by rw [hac];exact agm.out.aC hfF aqz aqh aq3);have hB1:=HB.out.trunc k;have hl1:(aO c k).h.length≤c.h.length∧k≤(aO c k).h.length:=by simp only [aO,List.length_take];omega
   generalize aO c k=d1 at hB1 hl1 akv HF3;clear x0 x1 x2 x3 c0 c1 c2 z1 z2 aqh aq3 agm hag hcc hac;generalize c.h=H0 at*;obtain ⟨R,hR⟩:∃R,R=gK H0 cs d1 (k:Int):=⟨_,rfl⟩;rw [←hR] at HF3;have HRE:=O hR;clear hR;obtain ⟨x0,x1,x2,x3,_⟩:=aR (jO.out _ akv.out.frm).1
   go_wp2_with fail
   clear x0 x1 x2 x3
  rotate_left
  focus
   have hcc:(if agr<ep then aO c (k:Int).toNat else c)=c:=if_neg hag;have hac:a1=agr:=ha1.trans (if_neg hag);rw [hcc] at HF3
   go_upto_region 17 with fail
   have akv:Hid (iV v7 F' f p ep a1 c v9):=O (by rw [hac];exact ST9.out);have hB1:=HB.out;have hl1:∀d,d=c→d.h.length≤c.h.length∧k≤d.h.length:=fun d e=>by rw [e];omega
   clear x0 x1 x2 x3 c0 c1 c2 z1 z2 ST9 hag hcc hac;generalize c.h=H0 at*;obtain ⟨d1,hd1⟩:∃d,d=c:=⟨_,rfl⟩;have hl1:=hl1 d1 hd1;rw [←hd1] at akv HF3 hB1;obtain ⟨R,hR⟩:∃R,R=gK H0 cs d1 (k:Int):=⟨_,rfl⟩;rw [←hR] at HF3;have HRE:=O hR;clear hR;obtain ⟨x0,x1,x2,x3,_⟩:=aR (jO.out _ akv.out.frm).1
   go_wp2_with fail
   clear x0 x1 x2 x3
  all_goals
   go_loopw [10,93] (fun a iv wr=>∃(i:Nat) (d:Kp) (ap:Int),i≤cs.length∧iv= .int .i64 (i:Int)∧a= .int .i64 ap∧iV v7 F' f p ep a1 d wr∧KpB d∧k+i≤d.h.length∧(d.h.length≤H0.length∨d.h.length≤k+i)∧gK H0 (cs.drop i) d ap=R) (fun _ iv _=>cs.length-(intOf iv).toNat)
   case atStart=>exact ⟨0,d1,(k:Int),Nat.zero_le _,rfl,rfl,akv.out,hB1,by omega,.inl hl1.1,HRE.out.symm⟩
   case round=>
    obtain ⟨i,d,ap,hi,rfl,rfl,hst,hBd,hk1,hk2,hR⟩:=hrel;obtain ⟨ST,HBD,HRR,HK2⟩:=fV hst hBd hR hk2;clear hst hBd hR hk2
    by_cases hlt:i<cs.length
    ·obtain ⟨b,off,x,rfl,hx,hcl⟩:=(arw.out wr ST.out.frm).lI (i:=i) hlt
     obtain ⟨hcx,as3⟩:=HXS.out i x hx;have hdr:cs.drop i=x :: cs.drop (i+1):=by
      rw [List.drop_eq_getElem_cons hlt]
      congr 1
      rw [List.getElem?_eq_getElem hlt] at hx;exact Option.some.inj hx
     have hR:=HRR.out;rw [hdr] at hR;obtain ⟨N,hN⟩:∃N,N=k+i:=⟨_,rfl⟩;have hidx:x.sq-1=(N:Int):=by omega
     have htn:(x.sq-1).toNat=N:=by omega
     have hR1:(d.h.length:Int)<x.sq∨(H0.getD N ⟨0,0,0,0,0,0,noS,noS⟩).ep≠x.ep→(if (aH (aO d N) x).1≠0 then ((aH (aO d N) x).2,ap) else gK H0 (cs.drop (i+1)) (aH (aO d N) x).2 x.sq)=R:=by
      intro hc;rw [gK,htn,if_pos hc] at hR;exact hR
     have hR2:¬((d.h.length:Int)<x.sq∨(H0.getD N ⟨0,0,0,0,0,0,noS,noS⟩).ep≠x.ep)→gK H0 (cs.drop (i+1)) d x.sq=R:=by
      intro hc;rw [gK,htn,if_neg hc] at hR;exact hR
     have hmx:=acv hcx;have hBt:=HBD.out.trunc N;have hlt2:(aO d N).h.length=N:=by simp only [aO,List.length_take];omega
     have hBa:=hBt.apply hmx oy;have hla:(aH (aO d N) x).1=0→(aH (aO d N) x).2.h.length=N+1:=fun h0=>by rw [(vD h0).1,List.length_append,hlt2];rfl
     obtain ⟨x0,x1,x2,x3,x4,x5,x6,x7⟩:=hcl wr (Fr.refl _ _);obtain ⟨g12,akq⟩:∃g,g=wr.heap.size:=⟨_,rfl⟩;have hN9:N≤5000:=by omega
     have hN8:(N:Int)≤5000:=by omega
     have hwN:IntKind.i64.wrap (N:Int)=(N:Int):=IntWalk.i64_in _ oy;have HN:=O hN;clear hN;have hlk:(i:Int)<(cs.length:Int):=by omega
     obtain ⟨HXX,HR1,HR2,HSQ⟩:=fV hx hR1 hR2 as3;have ao2:=fun (V:World) (F2:Nat→Prop) (hV:aM V F2 p (aO d N))=>oU hV x hmx.1 hmx.2 oy (by have:=hBt.its;omega) hBt.les;generalize atp:aH (aO d N) x=apx at hBa hla ao2 HR1;obtain ⟨ae,ad⟩:=apx;simp only at hBa hla ao2 HR1;obtain ⟨HBA,HLA,avj⟩:=bC hBa hla ao2;obtain ⟨xep,xsq,xkd,xcl,xnm,xit,xky,xvl⟩:=x;simp only at x0 x1 x2 x3 x4 x5 x6 x7 hidx HR1 HR2 HSQ avj;have b12:=Blk.new wr TCh #[.int .i64 xep,.int .i64 xsq,.int .i64 xkd,.int .i64 xcl,.int .i64 xnm,.int .i64 xit,.string xky,.string xvl];have s12:=ST.out.step (aj wr (.cells #[.int .i64 xep,.int .i64 xsq,.int .i64 xkd,.int .i64 xcl,.int .i64 xnm,.int .i64 xit,.string xky,.string xvl] TCh));have z12:(wr.alloc (.cells #[.int .i64 xep,.int .i64 xsq,.int .i64 xkd,.int .i64 xcl,.int .i64 xnm,.int .i64 xit,.string xky,.string xvl] TCh)).heap.size=g12+1:=by rw [World.size_alloc,akq]
     rw [←akq] at b12;have fw1:=aj wr (.cells #[.int .i64 xep,.int .i64 xsq,.int .i64 xkd,.int .i64 xcl,.int .i64 xnm,.int .i64 xit,.string xky,.string xvl] TCh);obtain ⟨HGX,avg⟩:=aN atp akq;clear hcl hx hdr hR hR1 hR2 hcx as3 htn hmx hBt hla hBa ao2 atp
     go_upto_region 21 with fail
     clear x0 x1 x2 x3 x4 x5 x6 x7;rw [←akq];generalize wr.alloc (.cells #[.int .i64 xep,.int .i64 xsq,.int .i64 xkd,.int .i64 xcl,.int .i64 xnm,.int .i64 xit,.string xky,.string xvl] TCh)=w1 at b12 s12 z12 fw1 ⊢;have axv:=O fw1;clear fw1;obtain ⟨ST1,B12⟩:=aN s12 b12;have x0:=b12.cell 0;have x1:=b12.cell 1;simp only [List.getElem?_toArray,List.getElem?_cons_zero,List.getElem?_cons_succ] at x0 x1;obtain ⟨⟨c0,c1,c2⟩,z1,z2⟩:=s12.cells;obtain ⟨F1,k1_,hF1,-⟩:=s12.call hfF aqz (Fr.refl No w1);have HLEN:=O (fun V (hV:Fr No w1 V)=>bQ (k1_.au hV));clear s12 b12 akq k1_ hF1
     by_cases hb1:(d.h.length:Int)<xsq
     focus
      have hRR:=HR1.out (.inl hb1)
      go_quiet (first|(go_at_call 16;exact dK ((HLEN.out _ ((Fr.refl No w1).drewN _)).mono fun _ _ ⟨h1,h2⟩=>⟨h1,h2.symm⟩)))
     rotate_left
     focus
      have hlt3:N<H0.length:=by have:=HK2.out;have:=HSQ.out;have:=HN.out;omega
      obtain ⟨b',off',y,hA7,hy,hcy⟩:=(ar4.out w1 ST1.out.frm).lI (i:=N) hlt3;subst hA7;have y0:=(hcy w1 (Fr.refl _ _)).1;have hgd:(H0.getD N ⟨0,0,0,0,0,0,noS,noS⟩).ep=y.ep:=by rw [List.getD_eq_getElem?_getD,hy];rfl
      have atb:(N:Int)<(H0.length:Int):=by omega
      have hb2:xsq≤(d.h.length:Int):=by omega
      generalize y.ep=ye at y0 hgd;clear hcy hy
      cases d9:ye == xep
      focus
       have dn:(ye != xep)=true:=by simp only [bne,d9];rfl
       have hRR:=HR1.out (.inr (by rw [hgd];simpa using d9));clear hgd
       go_quiet (first|(go_at_call 16;exact dK ((HLEN.out _ ((Fr.refl No w1).drewN _)).mono fun _ _ ⟨h1,h2⟩=>⟨h1,h2.symm⟩)))
       clear y0 dn d9
      rotate_left
      focus
       have dn:(ye != xep)=false:=by simp only [bne,d9];rfl
       have hRR:=O (HR2.out (by rw [hgd];rintro (h|h);exact hb1 h;exact h (by simpa using d9)));clear hgd
       go_quiet (first|(go_at_call 16;exact dK ((HLEN.out _ ((Fr.refl No w1).drewN _)).mono fun _ _ ⟨h1,h2⟩=>⟨h1,h2.symm⟩)))
       have f9_:Fr No w1 (w1.drewN nq):=(Fr.refl _ _).drewN _;generalize w1.drewN nq=v12 at f9_ ⊢;have an3:=O (ST1.out.step f9_);have aj1:=B12.out.fr f9_ id;clear x0 x1;have x0:=aj1.cell 0;have x1:=aj1.cell 1;simp only [List.getElem?_toArray,List.getElem?_cons_zero,List.getElem?_cons_succ] at x0 x1;clear f9_ aj1 y0 c0 c1 c2 z1 z2
       go_wp2_with fail
       go_roundw
       case rel=>exact ⟨i+1,d,xsq,by omega,by go_num,rfl,an3.out,HBD.out,by have:=HN.out;have:=HSQ.out;omega,by have:=HK2.out;have:=HSQ.out;omega,hRR.out⟩
       case measure=>simp [intOf];omega
     all_goals
      have f9_:Fr No w1 (w1.drewN nq):=(Fr.refl _ _).drewN _;have fw_:=axv.out.ah f9_;generalize w1.drewN nq=v12 at f9_ fw_ ⊢;obtain ⟨hbb,F2,hcp2,hsub2,hfr2⟩:=ST.out;have hF2:=hcp2.lt;have aj1:=B12.out.fr f9_ id;have hf2:¬F2 f:=fun e=>by rcases hsub2 f e with h|h;exact hfF h;omega
      have aww:g12<v12.heap.size:=aj1.lt;have hfg:f<wr.heap.size:=hbb.lt;have amz:f<v12.heap.size:=by have:=avg.out;omega
      have ajk:iV v12 F2 f p ep a1 d v12:=⟨hbb.fr fw_ id,F2,hcp2.au fw_,fun i h=> .inl h,Fr.refl _ _⟩;have hsx:∀V e,iV v12 F2 f p ep a1 e V→(V.cell? ⟨f,0,none⟩=some (.pointer (some ⟨p,0,none⟩)))∧(V.cell? ⟨g12,0,none⟩=some (.int .i64 xep)∧V.cell? ⟨g12,1,none⟩=some (.int .i64 xsq)∧V.cell? ⟨g12,2,none⟩=some (.int .i64 xkd)∧V.cell? ⟨g12,3,none⟩=some (.int .i64 xcl)∧V.cell? ⟨g12,4,none⟩=some (.int .i64 xnm)∧V.cell? ⟨g12,5,none⟩=some (.int .i64 xit)∧V.cell? ⟨g12,6,none⟩=some (.string xky)∧V.cell? ⟨g12,7,none⟩=some (.string xvl)):=fun V e hV=>
       have hb:=aj1.fr hV.frm (fun e=>by
        have:=avg.out
        rcases e with e|e
        ·have:=hF2 _ e;omega
        ·omega)
       ⟨hV.cells.1.1,hb.cell 0,hb.cell 1,hb.cell 2,hb.cell 3,hb.cell 4,hb.cell 5,hb.cell 6,hb.cell 7⟩
      have amn:∀W e,iV v12 F2 f p ep a1 e W→iV v7 F' f p ep a1 e W:=fun W e hV=>hV.ag1 hsub2 (hfr2.trans fw_ fun _ h=>h.elim);have htr:∀V,Fr No v12 V→Calls Tryz.prog 51 #[.pointer (some ⟨p,0,none⟩),.int .i64 (N:Int)] V fun e V' =>e= .returned (.int .i64 0)∧iV v12 F2 f p ep a1 (aO d N) V' :=fun V hV=>by
       obtain ⟨F3,k3,_,hto⟩:=ajk.call hf2 amz hV;exact (oN k3 N (by have:=HN.out;omega) (by have:=HBD.out.h;omega) HBD.out.ch).mono fun e V' ⟨h1,h2⟩=>⟨h1,(hto _ _ h2).1⟩
      have hap:∀v13,iV v12 F2 f p ep a1 (aO d N) v13→∀V,Fr No v13 V→Calls Tryz.prog 52 #[.pointer (some ⟨p,0,none⟩),.agg #[.int .i64 xep,.int .i64 xsq,.int .i64 xkd,.int .i64 xcl,.int .i64 xnm,.int .i64 xit,.string xky,.string xvl]] V fun e V' =>e= .returned (.int .i64 ae)∧iV v12 F2 f p ep a1 ad V' :=fun v13 h13 V hV=>by
       obtain ⟨F3,k3,_,hto⟩:=h13.call hf2 amz hV;have:=avj.out V F3 k3;exact this.mono fun e V' ⟨h1,h2⟩=>⟨h1,(hto _ _ h2).1⟩
      obtain ⟨an3,HSX,aoa,HTR,HAP,au5⟩:=oK ajk hsx amn htr hap hRR;clear x0 x1 c0 c1 c2 z1 z2 f9_ fw_ hbb hcp2 hsub2 hfr2 hF2 aj1 hf2 ajk hsx amn htr hap hRR ST1 B12 HLEN HR1 HR2;obtain ⟨c0,x0,x1,x2,x3,x4,x5,x6,x7⟩:=HSX.out _ _ an3.out
      go_upto_region 22 with fail
      go_region_held3 (fun V=>(V.cell? ⟨f,0,none⟩=some (.pointer (some ⟨p,0,none⟩)))∧(V.cell? ⟨g12,0,none⟩=some (.int .i64 xep)∧V.cell? ⟨g12,1,none⟩=some (.int .i64 xsq)∧V.cell? ⟨g12,2,none⟩=some (.int .i64 xkd)∧V.cell? ⟨g12,3,none⟩=some (.int .i64 xcl)∧V.cell? ⟨g12,4,none⟩=some (.int .i64 xnm)∧V.cell? ⟨g12,5,none⟩=some (.int .i64 xit)∧V.cell? ⟨g12,6,none⟩=some (.string xky)∧V.cell? ⟨g12,7,none⟩=some (.string xvl))) (first|(refine HSX.out _ _ (an3.out.step ?_);(with_reducible ((repeat (first|assumption|exact Fr.refl _ _|refine Fr.alloc ?_ _|refine Fr.drew ?_|refine Fr.drewN ?_ _|refine Fr.setCell ?_ (.inr (Nat.le_refl _)) _));done)))|(exact HSX.out _ _ Q13)) (first
       |(go_at_call 51;refine (HTR.out _ (by with_reducible ((repeat (first|assumption|exact Fr.refl _ _|refine Fr.alloc ?_ _|refine Fr.drew ?_|refine Fr.drewN ?_ _));done))).mono ?_;rintro r2 v13 ⟨rfl,Q13⟩))
      have ao6:=O Q13;clear c0 x0 x1 x2 x3 x4 x5 x6 x7 Q13 an3 HTR;obtain ⟨c0,x0,x1,x2,x3,x4,x5,x6,x7⟩:=HSX.out _ _ ao6.out
      go_upto_region 23 with fail
      go_region_held3 (fun V=>(V.cell? ⟨f,0,none⟩=some (.pointer (some ⟨p,0,none⟩)))∧(V.cell? ⟨g12,0,none⟩=some (.int .i64 xep)∧V.cell? ⟨g12,1,none⟩=some (.int .i64 xsq)∧V.cell? ⟨g12,2,none⟩=some (.int .i64 xkd)∧V.cell? ⟨g12,3,none⟩=some (.int .i64 xcl)∧V.cell? ⟨g12,4,none⟩=some (.int .i64 xnm)∧V.cell? ⟨g12,5,none⟩=some (.int .i64 xit)∧V.cell? ⟨g12,6,none⟩=some (.string xky)∧V.cell? ⟨g12,7,none⟩=some (.string xvl))) (first|(refine HSX.out _ _ (ao6.out.step ?_);(with_reducible ((repeat (first|assumption|exact Fr.refl _ _|refine Fr.alloc ?_ _|refine Fr.drew ?_|refine Fr.drewN ?_ _|refine Fr.setCell ?_ (.inr (Nat.le_refl _)) _));done)))|(exact HSX.out _ _ Q14)) (first
       |(go_at_call 52;refine (HAP.out _ ao6.out _ (by with_reducible ((repeat (first|assumption|exact Fr.refl _ _|refine Fr.alloc ?_ _|refine Fr.drew ?_|refine Fr.drewN ?_ _));done))).mono ?_;rintro r2 v14 ⟨rfl,Q14⟩))
      have arn:=O Q14;clear c0 x0 x1 x2 x3 x4 x5 x6 x7 Q14 ao6 HAP
      cases d10:ae == 0
      ·have dn:(ae != 0)=true:=by simp only [bne,d10];rfl
       have hR:=au5.out;rw [if_pos (by simpa using d10)] at hR;have arl:=O (aoa.out _ _ arn.out);have hR1:=congrArg Prod.fst hR;have hR2:=congrArg Prod.snd hR;simp only at hR1 hR2;obtain ⟨HRA,HRB⟩:=aN hR1 hR2;clear hR hR1 hR2;obtain ⟨x0,x1,x2,x3,_⟩:=aR (jO.out _ arl.out.frm).1;obtain ⟨y0,y1,y2,y3,y4,y5⟩:=sJ (jO.out _ arl.out.frm).2
       go_wp2_with fail
       obtain ⟨q1,q2⟩:=ake.out _ _ _ _ arl.out (.int .i64 ep) (.int .i64 ap) (.bool true);refine bodyPost_ret (jl 4 5 _ _ _ _ _ q1 rfl rfl rfl) rfl ?_;rw [HF3.out];simp only [←HRA.out,←HRB.out];exact ⟨rfl,q2⟩
      ·obtain rfl:ae=0:=by simpa using d10
       have hR:=au5.out;rw [if_neg (by simp)] at hR;have HRA:=O hR;clear hR;obtain ⟨c0,x0,x1,x2,x3,x4,x5,x6,x7⟩:=HSX.out _ _ arn.out;have avc:=O (HLA.out rfl)
       go_wp2_with fail
       go_roundw
       case rel=>exact ⟨i+1,ad,xsq,by omega,by go_num,rfl,aoa.out _ _ arn.out,HBA.out,by have:=avc.out;have:=HN.out;omega,.inr (by have:=avc.out;have:=HN.out;omega),HRA.out⟩
       case measure=>simp [intOf];omega
    ·obtain rfl:i=cs.length:=by omega
     have hR:=HRR.out;rw [List.drop_length,gK] at hR;subst hR;obtain ⟨x0,x1,x2,x3,_⟩:=aR (jO.out _ ST.out.frm).1;obtain ⟨y0,y1,y2,y3,y4,y5⟩:=sJ (jO.out _ ST.out.frm).2
     go_wp2_with fail
     obtain ⟨q1,q2⟩:=ake.out _ _ _ _ ST.out (.int .i64 ep) (.int .i64 ap) (.bool true);refine bodyPost_ret (jl 4 5 _ _ _ _ _ q1 rfl rfl rfl) rfl ?_;rw [HF3.out];exact ⟨rfl,q2⟩
end Go.Proofs.YtodkhcbjpodgeaaGreat
