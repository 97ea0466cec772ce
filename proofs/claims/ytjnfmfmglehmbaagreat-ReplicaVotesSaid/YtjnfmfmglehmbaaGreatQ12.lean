/-
  The contracts of the reference's disk, and of both disks' Copy.
-/
import Derived.Test.YtjnfmfmglehmbaaGreatQ08
import Derived.Test.YtjnfmfmglehmbaaGreatQ11
import Derived.Test.YtjnfmfmglehmbaaGreatQ04
import Derived.Deep.RegionHeld3
import Derived.IntWalk
import Derived.Deep.Slices
import Derived.Deep.Fields
import Derived.ChangeSame
namespace Go.Proofs.YtjnfmfmglehmbaaGreat
open Go.ChangeShapes Go.WideShapes Go.ChangeAt Go.RowKit
set_option linter.unusedVariables false
set_option maxRecDepth 100000
set_option maxHeartbeats 4000000
section
def fq (T:TypeId)(w:World)(F:Nat→Prop)(d:Nat)(xs:List UInt8)(k:Nat):Prop:=
 ∃v,Blk w d T #[v,.int .i64 (k:Int)]∧F d∧Own w F 5 v (xs.map bv)∧k≤xs.length∧xs.length≤140737488355328∧∀i,F i→i<w.heap.size
def jI (T:TypeId)(w:World)(F:Nat→Prop)(d:Nat)(xs:List UInt8)(k:Nat)(w' :World):Prop:=
 ∃F',fq T w' F' d xs k∧(∀i,F' i→F i∨w.heap.size≤i)∧Fr F w w'
abbrev amj:TypeId:=130
abbrev dz:TypeId:=132
section
variable {T:TypeId}{w w' :World}{F G:Nat→Prop}{d:Nat}{xs:List UInt8}{k:Nat}
theorem fq.fr (h:fq T w F d xs k)(hf:Fr G w w')(hd:∀i,F i→¬G i):fq T w' F d xs k:=by
 obtain ⟨v,h1,h2,h3,h4,h5,h6⟩:=h;exact ⟨v,h1.fr hf (hd d h2),h2,h3.fr hf hd,h4,h5,fun i hi=>nll (h6 i hi) hf.size⟩
theorem fq.ak (h:fq T w F d xs k)(hf:Fr No w w'):fq T w' F d xs k:=h.fr hf fun _ _ hi=>hi
theorem fq.lt (h:fq T w F d xs k):∀i,F i→i<w.heap.size:=by
 obtain ⟨v,h1,h2,h3,h4,h5,h6⟩:=h;exact h6
theorem fq.has (h:fq T w F d xs k):F d:=by
 obtain ⟨v,h1,h2,h3,h4,h5,h6⟩:=h;exact h2
theorem fq.open_ (h:fq T w F d xs k):
  ∃A c,Blk w d T #[.slice A xs.length c,.int .i64 (k:Int)]∧F d∧Own w F 5 (.slice A xs.length c) (xs.map bv)∧k≤xs.length∧xs.length≤140737488355328∧
   w.cell? ⟨d,0,none⟩=some (.slice A xs.length c)∧w.cell? ⟨d,1,none⟩=some (.int .i64 (k:Int))∧w.frozen? ⟨d,0,none⟩=false∧w.frozen? ⟨d,1,none⟩=false∧(A=none→xs.length=0)∧xs.length≤c:=by
 obtain ⟨v,h1,h2,h3,h4,h5,h6⟩:=h;obtain ⟨A,c,rfl,hn⟩:=h3.form;rw [List.length_map] at h1 h3 hn;exact ⟨A,c,h1,h2,h3,h4,h5,h1.cell 0,h1.cell 1,h1.frozen 0,h1.frozen 1,hn,h3.cap.1⟩
theorem ahr {v:Value}(hb:Blk w d T #[v,.int .i64 (k:Int)])(ho:Own w G 5 v (xs.map bv))(hk:k≤xs.length)(hl:xs.length≤140737488355328):fq T w (fun i=>i=d∨v.ownBlock=some i) d xs k:=
 ⟨v,hb,.inl rfl,⟨ho.1,fun g hg=> .inr hg⟩,hk,hl,fun i hi=>by
  rcases hi with rfl|hi
  ·exact hb.lt
  ·exact ho.lt i hi⟩
theorem aea {v:Value}(hF:F d)(hb:Blk w' d T #[v,.int .i64 (k:Int)])(ho:Own w' G 5 v (xs.map bv))(hG:∀i,G i→F i∨w.heap.size≤i)(hk:k≤xs.length)(hl:xs.length≤140737488355328)(hf:Fr F w w'):jI T w F d xs k w' :=by
 refine ⟨_,ahr hb ho hk hl,fun i hi=> ?_,hf⟩
 rcases hi with rfl|hi
 ·exact .inl hF
 ·exact hG i (ho.2 i hi)
theorem jI.weak (h:jI T w F d xs k w')(hg:∀i,F i→G i):jI T w G d xs k w' :=by
 obtain ⟨F',h1,h2,h3⟩:=h;refine ⟨F',h1,fun i hi=> ?_,h3.mono hg⟩
 rcases h2 i hi with h4|h4
 ·exact .inl (hg i h4)
 ·exact .inr h4
theorem kZ {v v' :Value}(i:Nat)(u:Value)(hT:5≠T)(h1:Blk w d T #[v,.int .i64 (k:Int)])(h3:Own w G 5 v' (xs.map bv)):
  Blk (w.setCell ⟨d,i,none⟩ u) d T (#[v,.int .i64 (k:Int)].setIfInBounds i u)∧Own (w.setCell ⟨d,i,none⟩ u) G 5 v' (xs.map bv):=
 ⟨h1.aU i u,h3.fr' (dx w ⟨d,i,none⟩ u) (h3.fT h1 hT)⟩
end
theorem zD {T:TypeId}{w w1:World}{v:Value}{xs:List UInt8}{k:Nat}(ho:Own w1 (fun i=>w.heap.size≤i) 5 v (xs.map bv))(hf:Fr No w w1)(hk:k≤xs.length)(hl:xs.length≤140737488355328):
  ∃d' F',Ending.returned (.pointer (some ⟨w1.heap.size,0,none⟩))= .returned (.pointer (some ⟨d',0,none⟩))∧fq T (w1.alloc (.cells #[v,.int .i64 (k:Int)] T)) F' d' xs k∧(∀i,F' i→w.heap.size≤i)∧Fr No w (w1.alloc (.cells #[v,.int .i64 (k:Int)] T)):=by
 refine ⟨w1.heap.size,_,rfl,ahr (Blk.new _ _ _) (ho.ak (aj _ _)) hk hl,fun i hi=> ?_,hf.alloc _⟩
 rcases hi with rfl|hi
 ·exact hf.size
 ·exact ho.2 i hi
theorem acr (w:World):
  Calls Tryz.prog 79 #[] w fun e w' =>e= .returned (.pointer (some ⟨w.heap.size,0,none⟩))∧fq dz w' (fun i=>i=w.heap.size) w.heap.size [] 0∧Fr No w w' :=by
 go_in
 go_wp2
 go_ret
 refine ⟨rfl,⟨.slice none 0 0,Blk.new _ _ _,rfl,Own.nil _ _ _,Nat.le_refl _,by simp,?_⟩,(Fr.refl _ _).alloc _⟩;intro i hi;subst hi
 simp
theorem aac (w:World)(F:Nat→Prop)(d:Nat)(xs:List UInt8)(k:Nat)(h:fq dz w F d xs k):
  Calls Tryz.prog 131 #[.pointer (some ⟨d,0,none⟩)] w fun e w' =>e= .returned (.tuple #[])∧jI dz w F d xs xs.length w' :=by
 obtain ⟨A,c,h1,h2,h3,h4,h5,c0,c1,f0,f1,hn,hcap⟩:=h.open_;obtain ⟨H1,H3⟩:=aO h1 h3;clear h1 h3;clear hn h
 go_in
 go_wp2
 go_end0
 obtain ⟨g1,g3⟩:=kZ 1 (.int .i64 (xs.length:Int)) dcd H1.out H3.out;exact ⟨rfl,aea h2 g1 g3 (fun i hi=> .inl hi) (Nat.le_refl _) h5 ((Fr.refl _ _).setCell (.inl h2) _)⟩
set_option maxHeartbeats 1000000 in
theorem vK (w:World)(F:Nat→Prop)(d:Nat)(xs:List UInt8)(k:Nat)(h:fq dz w F d xs k)
  (A2:Option Addr) (m c2:Nat) (ys:List UInt8) (B:Nat) (hA:A2=none→m=0) (hr:Rd w B A2 (ys.map bv)) (hB:B≤w.heap.size) (hm:ys.length=m) (hsz:xs.length+m≤140737488355328):
  Calls Tryz.prog 156 #[.pointer (some ⟨d,0,none⟩),.slice A2 m c2] w fun e w' =>e= .returned (.tuple #[])∧jI dz w F d (xs++ys) k w' :=by
 obtain ⟨A,c,h1,h2,h3,h4,h5,c0,c1,f0,f1,hn,hcap⟩:=h.open_;obtain ⟨i0,hi0,hz0,hz1,hz2⟩:=info_parts bD;have hdl:=h1.lt;obtain ⟨H1,H3,HN,HA,HR,HM⟩:=lG h1 h3 hn hA hr hm;clear h1 h3 hn hA hr hm;clear h
 go_in
 go_wp2_with (at_builtin;refine ay _ rfl (.tmp 5) (.tmp 9) _ rfl 0 5 i0 _ 1 Tryz.underlying128 hi0 hz0 hz1 hz2 rfl _ (0) ([]) rfl ?k1a (w.heap.size) (A) (xs.length) (c) (xs.map bv) rfl ?k1b ?k1c ?k1d (dS _) ?k1e ?k1f (Nat.zero_le _) ?_)
 case k1a=>exact (Own.made w 5).1
 case k1b=>exact HN.out
 case k1c=>exact (H3.out.rd.ak (aj _ _) (Nat.le_refl _))
 case k1d=>exact (by rw [List.length_map])
 case k1e=>unfold maxLen;omega
 case k1f=>omega
 intro v1 w1 happ;obtain ⟨o1,f1'⟩:=(Own.made w 5).aT (by simp) rfl (by rw [List.length_map]) happ;rw [List.nil_append] at o1;have g1:=(aj w (.cells #[] 5)).aA f1' fun i hi=>hi;have hs1:=g1.size;obtain ⟨O1,G1⟩:=aO o1 g1;clear o1 g1;clear happ f1'
 go_wp2_with (at_builtin;refine ay _ rfl (.tmp 10) (.tmp 11) _ rfl 0 5 i0 _ 1 Tryz.underlying128 hi0 hz0 hz1 hz2 rfl _ (xs.length) (xs.map bv) rfl ?k2a (B) (A2) (m) (c2) (ys.map bv) rfl ?k2b ?k2c ?k2d (dS _) ?k2e ?k2f (Nat.zero_le _) ?_)
 case k2a=>exact (O1.out.own (by rw [List.length_map]))
 case k2b=>exact HA.out
 case k2c=>exact (HR.out.ak G1.out hB)
 case k2d=>exact (by rw [List.length_map,HM.out])
 case k2e=>unfold maxLen;omega
 case k2f=>omega
 intro v2 w2 happ;obtain ⟨o2,f2⟩:=O1.out.aT hs1 (by rw [List.length_map]) (by rw [List.length_map,HM.out]) happ;rw [←List.map_append] at o2;have g2:=G1.out.aA f2 fun i hi=>hi;have b2:=H1.out.fr g2 id;have c0' :=b2.cell 0;have f0' :=b2.frozen 0;simp only [List.getElem?_toArray,List.getElem?_cons_zero] at c0';obtain ⟨A4,c4,rfl,n4⟩:=o2.form;rw [List.length_map] at o2 ⊢;obtain ⟨O2,G2,B2⟩:=bP o2 g2 b2;clear o2 g2 b2;clear happ f2 n4
 go_wp2_with fail
 go_end0
 obtain ⟨e1,e3⟩:=kZ 0 (.slice A4 (xs++ys).length c4) dcd B2.out O2.out;have hml:=HM.out;rw [List.length_append] at e1 e3;exact ⟨rfl,aea h2 e1 e3 (fun i hi=> .inr hi) (by rw [List.length_append];omega) (by rw [List.length_append];omega) ((G2.out.mono fun i hi=>hi.elim).setCell (.inl h2) _)⟩
theorem vJ {w w2:World}{F:Nat→Prop}{d:Nat}{v v2:Value}{k q:Nat}{ys:List UInt8}(hF:F d)(hb:Blk w d dz #[v,.int .i64 (k:Int)])(ho:Own w2 (fun i=>w.heap.size≤i) 5 v2 (ys.map bv))(hf:Fr No w w2)(hq:q≤ys.length)(hl:ys.length≤140737488355328):
  jI dz w F d ys q ((w2.setCell ⟨d,0,none⟩ v2).setCell ⟨d,1,none⟩ (.int .i64 (q:Int))):=by
 obtain ⟨e1,e3⟩:=kZ 0 v2 dcd (hb.fr hf id) ho;obtain ⟨e4,e5⟩:=kZ 1 (.int .i64 (q:Int)) dcd e1 e3;exact aea hF e4 e5 (fun i hi=> .inr hi) hq hl (((hf.mono fun i hi=>hi.elim).setCell (.inl hF) _).setCell (.inl hF) _)
set_option maxHeartbeats 1000000 in
theorem mO (w:World)(F:Nat→Prop)(d:Nat)(xs:List UInt8)(k:Nat)(h:fq dz w F d xs k)(n:Nat)(hyes:n≤xs.length):
  Calls Tryz.prog 142 #[.pointer (some ⟨d,0,none⟩),.int .i64 (n:Int)] w fun e w' =>e= .returned (.int .i64 0)∧jI dz w F d (xs.take n) (min k n) w' :=by
 obtain ⟨A,c,h1,h2,h3,h4,h5,c0,c1,f0,f1,hn,hcap⟩:=h.open_;obtain ⟨i0,hi0,hz0,hz1,hz2⟩:=info_parts bD;have hdl:=h1.lt;have htl:(xs.take n).length=n:=by rw [List.length_take];omega
 have hcut:=h3.cut (k:=n) hyes;rw [←List.map_take] at hcut;generalize xs.take n=ys at*;have hnn:A=none→n=0:=fun h=>by have:=hn h;omega
 obtain ⟨H1,H3,abe,HTL,HNN⟩:=jr h1 h3 hcut htl hnn;clear h1 h3 hcut htl hnn;clear h hn;have hn0:decide ((n:Int)<0)=false:=by simp
 have hn1:decide ((xs.length:Int)<(n:Int))=false:=by simp;omega
 have hn2:¬xs.length<n:=by omega
 have hn3:n≤c:=by omega
 have hfin:∀(w2:World) (v2:Value) (q:Nat),Own w2 (fun i=>w.heap.size≤i) 5 v2 (ys.map bv)→Fr No w w2→q=min k n→jI dz w F d ys (min k n) ((w2.setCell ⟨d,0,none⟩ v2).setCell ⟨d,1,none⟩ (.int .i64 (q:Int))):=by
  rintro w2 v2 q ho hf rfl;have:=HTL.out;exact vJ h2 H1.out ho hf oy oy
 have bS:=O hfin;clear hfin
 by_cases hmin:n<k
 all_goals
  go_in
  go_wp2_with (at_builtin;refine ay _ rfl (.tmp 17) (.tmp 23) _ rfl 0 5 i0 _ 1 Tryz.underlying128 hi0 hz0 hz1 hz2 rfl _ (0) ([]) rfl ?k3a (w.heap.size) (A) (n) (c) (ys.map bv) rfl ?k3b ?k3c ?k3d (dS _) ?k3e ?k3f (Nat.zero_le _) ?_)
  case k3a=>exact (Own.made w 5).1
  case k3b=>exact HNN.out
  case k3c=>exact (abe.out.rd.ak (aj _ _) (Nat.le_refl _))
  case k3d=>exact (by rw [List.length_map,HTL.out])
  case k3e=>unfold maxLen;omega
  case k3f=>omega
  intro v1 w1 happ;obtain ⟨o1,f1'⟩:=(Own.made w 5).aT (by simp) rfl (by rw [List.length_map,HTL.out]) happ;rw [List.nil_append] at o1;have g1:=(aj w (.cells #[] 5)).aA f1' fun i hi=>hi;have b1:=H1.out.fr g1 id;have c0' :=b1.cell 0;have c1' :=b1.cell 1;have f0' :=b1.frozen 0;have atz :=b1.frozen 1;simp only [List.getElem?_toArray,List.getElem?_cons_zero,List.getElem?_cons_succ] at c0' c1';obtain ⟨A4,c4,rfl,n4⟩:=o1.form;rw [List.length_map] at o1 ⊢;obtain ⟨O1,G1,B1⟩:=bP o1 g1 b1;clear o1 g1 b1;clear happ f1' n4
  go_wp2_with fail
  go_ret
 ·exact ⟨rfl,bS.out _ _ n O1.out G1.out oy⟩
 ·exact ⟨rfl,bS.out _ _ k O1.out G1.out oy⟩
theorem aef (len k:Nat)(keep:Int)(h:k≤len):k≤bJ len k keep∧bJ len k keep≤len:=by unfold bJ;omega
set_option maxHeartbeats 2000000 in
theorem xJ (w:World)(F:Nat→Prop)(d:Nat)(xs:List UInt8)(k:Nat)(h:fq dz w F d xs k)(keep:Int):
  Calls Tryz.prog 138 #[.pointer (some ⟨d,0,none⟩),.int .i64 keep] w fun e w' =>e= .returned (.tuple #[])∧jI dz w F d (xs.take (bJ xs.length k keep)) (bJ xs.length k keep) w' :=by
 obtain ⟨A,c,h1,h2,h3,h4,h5,c0,c1,f0,f1,hn,hcap⟩:=h.open_;obtain ⟨i0,hi0,hz0,hz1,hz2⟩:=info_parts bD;have hdl:=h1.lt;obtain ⟨hq1,hq2⟩:=aef xs.length k keep h4;obtain ⟨q,hq⟩:∃q,bJ xs.length k keep=q:=⟨_,rfl⟩;rw [hq] at hq1 hq2 ⊢;have htl:(xs.take q).length=q:=by rw [List.length_take];omega
 have hcut:=h3.cut (k:=q) hq2;rw [←List.map_take] at hcut;generalize xs.take q=ys at*;have hnn:A=none→q=0:=fun h=>by have:=hn h;omega
 have hsub:IntKind.i64.wrap ((xs.length:Int)-(k:Int))=(xs.length:Int)-(k:Int):=IntWalk.i64_in _ oy;have hfin:∀(w2:World) (v2:Value) (j:Nat),Own w2 (fun i=>w.heap.size≤i) 5 v2 (ys.map bv)→Fr No (w.drewN j) w2→jI dz w F d ys q ((w2.setCell ⟨d,0,none⟩ v2).setCell ⟨d,1,none⟩ (.int .i64 (q:Int))):=by
  rintro w2 v2 j ho hf;exact vJ h2 h1 ho (((Fr.refl No w).drewN j).ah hf) oy oy
 obtain ⟨H1,H3,abe,HTL,HNN,bS⟩:=lG h1 h3 hcut htl hnn hfin;clear h1 h3 hcut htl hnn hfin;clear h hn;unfold bJ at hq;have hcase:keep≤0∨(0<keep∧keep<(xs.length:Int)-(k:Int))∨(0<keep∧(xs.length:Int)-(k:Int)≤keep):=by omega
 rcases hcase with hk1|⟨hk1,hk2⟩|⟨hk1,hk2⟩
 ·have hqk:((k:Int)+if keep<0 then 0 else keep)=(q:Int):=by first|omega|(split<;>omega)
  obtain ⟨HQ,HQK⟩:=aO hq hqk;clear hq hqk
  go_in
  go_wp2
  go_quiet (fail)
  rw [HQK.out]
  try generalize (if keep<0 then (0:Int) else keep)=M1
  have c0' :(w.drewN nq).cell? ⟨d,0,none⟩=some (.slice A xs.length c):=c0;have f0' :(w.drewN nq).frozen? ⟨d,0,none⟩=false:=f0;have aly :d<(w.drewN nq).heap.size:=hdl;have hcr:Rd (w.drewN nq) (w.drewN nq).heap.size A (ys.map bv):=abe.out.rd;have hb:Blk (w.drewN nq) d dz #[.slice A xs.length c,.int .i64 (k:Int)]:=H1.out;have hle:w.heap.size≤(w.drewN nq).heap.size:=Nat.le_refl _;have hfw:∀(w2:World) (v2:Value),Own w2 (fun i=>w.heap.size≤i) 5 v2 (ys.map bv)→Fr No (w.drewN nq) w2→jI dz w F d ys q ((w2.setCell ⟨d,0,none⟩ v2).setCell ⟨d,1,none⟩ (.int .i64 (q:Int))):=fun w2 v2=>bS.out w2 v2 nq;generalize w.drewN nq=W at c0' f0' aly hcr hb hle hfw ⊢;obtain ⟨HCR,HB,HFW⟩:=bP hcr hb hfw;clear hcr hb hfw;clear c0 c1 f0 f1 hdl bS abe H1 H3 hk1 hsub;have hqc:q≤c:=by omega
  go_wp2_with (at_builtin;refine ay _ rfl (.tmp 24) (.tmp 30) _ rfl 0 5 i0 _ 1 Tryz.underlying128 hi0 hz0 hz1 hz2 rfl _ (0) ([]) rfl ?k4a (W.heap.size) (A) (q) (c) (ys.map bv) rfl ?k4b ?k4c ?k4d (dS _) ?k4e ?k4f (Nat.zero_le _) ?_)
  case k4a=>exact (Own.made W 5).1
  case k4b=>exact HNN.out
  case k4c=>exact (HCR.out.ak (aj _ _) (Nat.le_refl _))
  case k4d=>exact (by rw [List.length_map,HTL.out])
  case k4e=>unfold maxLen;omega
  case k4f=>omega
  intro v1 w1 happ;obtain ⟨o1,f1'⟩:=(Own.made W 5).aT (by simp) rfl (by rw [List.length_map,HTL.out]) happ;rw [List.nil_append] at o1;have g1:=(aj W (.cells #[] 5)).aA f1' fun i hi=>hi;have b1:=HB.out.fr g1 id;have d0:=b1.cell 0;have d1:=b1.cell 1;have e0:=b1.frozen 0;have e1:=b1.frozen 1;simp only [List.getElem?_toArray,List.getElem?_cons_zero,List.getElem?_cons_succ] at d0 d1;obtain ⟨A4,c4,rfl,n4⟩:=o1.form;rw [List.length_map] at o1 ⊢;obtain ⟨O1,G1⟩:=aO o1 g1;clear o1 g1;clear happ f1' n4 b1
  go_wp2_with fail
  go_end0
  exact ⟨rfl,HFW.out _ _ (O1.out.mono fun i hi=>Nat.le_trans hle hi) G1.out⟩
 ·have hqk:((k:Int)+keep)=(q:Int):=by first|omega|(split<;>omega)
  obtain ⟨HQ,HQK⟩:=aO hq hqk;clear hq hqk
  go_in
  go_wp2
  go_quiet (fail)
  rw [HQK.out]
  try generalize ((12345:Int))=M1
  have c0' :(w.drewN nq).cell? ⟨d,0,none⟩=some (.slice A xs.length c):=c0;have f0' :(w.drewN nq).frozen? ⟨d,0,none⟩=false:=f0;have aly :d<(w.drewN nq).heap.size:=hdl;have hcr:Rd (w.drewN nq) (w.drewN nq).heap.size A (ys.map bv):=abe.out.rd;have hb:Blk (w.drewN nq) d dz #[.slice A xs.length c,.int .i64 (k:Int)]:=H1.out;have hle:w.heap.size≤(w.drewN nq).heap.size:=Nat.le_refl _;have hfw:∀(w2:World) (v2:Value),Own w2 (fun i=>w.heap.size≤i) 5 v2 (ys.map bv)→Fr No (w.drewN nq) w2→jI dz w F d ys q ((w2.setCell ⟨d,0,none⟩ v2).setCell ⟨d,1,none⟩ (.int .i64 (q:Int))):=fun w2 v2=>bS.out w2 v2 nq;generalize w.drewN nq=W at c0' f0' aly hcr hb hle hfw ⊢;obtain ⟨HCR,HB,HFW⟩:=bP hcr hb hfw;clear hcr hb hfw;clear c0 c1 f0 f1 hdl bS abe H1 H3 hk1 hsub;have hqc:q≤c:=by omega
  go_wp2_with (at_builtin;refine ay _ rfl (.tmp 24) (.tmp 30) _ rfl 0 5 i0 _ 1 Tryz.underlying128 hi0 hz0 hz1 hz2 rfl _ (0) ([]) rfl ?k5a (W.heap.size) (A) (q) (c) (ys.map bv) rfl ?k5b ?k5c ?k5d (dS _) ?k5e ?k5f (Nat.zero_le _) ?_)
  case k5a=>exact (Own.made W 5).1
  case k5b=>exact HNN.out
  case k5c=>exact (HCR.out.ak (aj _ _) (Nat.le_refl _))
  case k5d=>exact (by rw [List.length_map,HTL.out])
  case k5e=>unfold maxLen;omega
  case k5f=>omega
  intro v1 w1 happ;obtain ⟨o1,f1'⟩:=(Own.made W 5).aT (by simp) rfl (by rw [List.length_map,HTL.out]) happ;rw [List.nil_append] at o1;have g1:=(aj W (.cells #[] 5)).aA f1' fun i hi=>hi;have b1:=HB.out.fr g1 id;have d0:=b1.cell 0;have d1:=b1.cell 1;have e0:=b1.frozen 0;have e1:=b1.frozen 1;simp only [List.getElem?_toArray,List.getElem?_cons_zero,List.getElem?_cons_succ] at d0 d1;obtain ⟨A4,c4,rfl,n4⟩:=o1.form;rw [List.length_map] at o1 ⊢;obtain ⟨O1,G1⟩:=aO o1 g1;clear o1 g1;clear happ f1' n4 b1
  go_wp2_with fail
  go_end0
  exact ⟨rfl,HFW.out _ _ (O1.out.mono fun i hi=>Nat.le_trans hle hi) G1.out⟩
 ·have hqk:((k:Int)+if (xs.length:Int)-(k:Int)<keep then (xs.length:Int)-(k:Int) else keep)=(q:Int):=by first|omega|(split<;>omega)
  obtain ⟨HQ,HQK⟩:=aO hq hqk;clear hq hqk
  go_in
  go_wp2
  go_quiet (fail)
  rw [HQK.out]
  try generalize (if (xs.length:Int)-(k:Int)<keep then (xs.length:Int)-(k:Int) else keep)=M1
  have c0' :(w.drewN nq).cell? ⟨d,0,none⟩=some (.slice A xs.length c):=c0;have f0' :(w.drewN nq).frozen? ⟨d,0,none⟩=false:=f0;have aly :d<(w.drewN nq).heap.size:=hdl;have hcr:Rd (w.drewN nq) (w.drewN nq).heap.size A (ys.map bv):=abe.out.rd;have hb:Blk (w.drewN nq) d dz #[.slice A xs.length c,.int .i64 (k:Int)]:=H1.out;have hle:w.heap.size≤(w.drewN nq).heap.size:=Nat.le_refl _;have hfw:∀(w2:World) (v2:Value),Own w2 (fun i=>w.heap.size≤i) 5 v2 (ys.map bv)→Fr No (w.drewN nq) w2→jI dz w F d ys q ((w2.setCell ⟨d,0,none⟩ v2).setCell ⟨d,1,none⟩ (.int .i64 (q:Int))):=fun w2 v2=>bS.out w2 v2 nq;generalize w.drewN nq=W at c0' f0' aly hcr hb hle hfw ⊢;obtain ⟨HCR,HB,HFW⟩:=bP hcr hb hfw;clear hcr hb hfw;clear c0 c1 f0 f1 hdl bS abe H1 H3 hk1 hsub;have hqc:q≤c:=by omega
  go_wp2_with (at_builtin;refine ay _ rfl (.tmp 24) (.tmp 30) _ rfl 0 5 i0 _ 1 Tryz.underlying128 hi0 hz0 hz1 hz2 rfl _ (0) ([]) rfl ?k6a (W.heap.size) (A) (q) (c) (ys.map bv) rfl ?k6b ?k6c ?k6d (dS _) ?k6e ?k6f (Nat.zero_le _) ?_)
  case k6a=>exact (Own.made W 5).1
  case k6b=>exact HNN.out
  case k6c=>exact (HCR.out.ak (aj _ _) (Nat.le_refl _))
  case k6d=>exact (by rw [List.length_map,HTL.out])
  case k6e=>unfold maxLen;omega
  case k6f=>omega
  intro v1 w1 happ;obtain ⟨o1,f1'⟩:=(Own.made W 5).aT (by simp) rfl (by rw [List.length_map,HTL.out]) happ;rw [List.nil_append] at o1;have g1:=(aj W (.cells #[] 5)).aA f1' fun i hi=>hi;have b1:=HB.out.fr g1 id;have d0:=b1.cell 0;have d1:=b1.cell 1;have e0:=b1.frozen 0;have e1:=b1.frozen 1;simp only [List.getElem?_toArray,List.getElem?_cons_zero,List.getElem?_cons_succ] at d0 d1;obtain ⟨A4,c4,rfl,n4⟩:=o1.form;rw [List.length_map] at o1 ⊢;obtain ⟨O1,G1⟩:=aO o1 g1;clear o1 g1;clear happ f1' n4 b1
  go_wp2_with fail
  go_end0
  exact ⟨rfl,HFW.out _ _ (O1.out.mono fun i hi=>Nat.le_trans hle hi) G1.out⟩
set_option maxHeartbeats 1000000 in
theorem aed (w:World)(F:Nat→Prop)(d:Nat)(xs:List UInt8)(k:Nat)(h:fq amj w F d xs k):
  Calls Tryz.prog 111 #[.pointer (some ⟨d,0,none⟩)] w fun e w' =>∃d' F',e= .returned (.pointer (some ⟨d',0,none⟩))∧fq amj w' F' d' xs k∧(∀i,F' i→w.heap.size≤i)∧Fr No w w' :=by
 obtain ⟨A,c,h1,h2,h3,h4,h5,c0,c1,f0,f1,hn,hcap⟩:=h.open_;have hdl:=h1.lt;have hka:∀W:World,Fr No w W→W.cell? ⟨d,1,none⟩=some (.int .i64 (k:Int))∧Fr No w W:=fun W hW=>⟨(h1.fr hW id).cell 1,hW⟩;have hbt:∀W:World,Fr No w W→_:=fun W hW=>tF W F d xs k (h.ak hW);obtain ⟨H1,H3,HN,H,HKA,HBT⟩:=lG h1 h3 hn h hka hbt;clear h1 h3 hn h hka hbt
 go_in
 go_wp2_with fail
 go_region_held3 (fun w' =>w'.cell? ⟨d,1,none⟩=some (.int .i64 (k:Int))∧Fr No w w') (exact HKA.out _ frz) (first
  |(go_at_call 134;refine (HBT.out _ frz).mono ?_;rintro e w1 ⟨A1,c1',rfl,o1,f1'⟩;have O1:=O (o1.mono (G:=fun i=>w.heap.size≤i) fun i hi=>Nat.le_trans (Fr.size (F:=No) frz) hi);have F1:Fr No w w1:=Fr.ah frz f1';clear o1 f1'))
 all_goals
  go_wp2_with fail
  go_ret
  exact zD O1.out F1 h4 h5
end
section
theorem addr_add (b off j:Nat):(⟨b,off,none⟩:Addr).add j=⟨b,off+j,none⟩:=by unfold Addr.add;split<;>simp_all
theorem xZ {xs:List (List Value)}{size:Nat}(h:∀x∈xs,x.length=size)(i j:Nat)(hi:i<xs.length)(hj:j<size):xs.flatten[i*size+j]? =(xs[i])[j]? :=by
 induction xs generalizing i with
 |nil=>simp at hi
 |cons x xs ih=>
  have hx:=h x (by simp)
  rcases i with _|i
  ·rw [List.flatten_cons,Nat.zero_mul,Nat.zero_add,List.getElem?_append_left oy]
   rfl
  ·rw [List.flatten_cons,List.getElem?_append_right (by rw [hx,Nat.succ_mul];omega),hx]
   rw [show (i+1)*size+j-size=i*size+j from by rw [Nat.succ_mul];omega]
   simpa using ih (fun y hy=>h y (by simp [hy])) i (by simpa using hi)
theorem xY {xs:List (List Value)}{size:Nat}(h:∀x∈xs,x.length=size):xs.flatten.length=xs.length*size:=by
 induction xs with
 |nil=>simp
 |cons x xs ih=>rw [List.flatten_cons,List.length_append,h x (by simp),ih (fun y hy=>h y (by simp [hy])),List.length_cons,Nat.succ_mul];omega
section
variable {H:Type}{enc:TypeId×Value→H}{P:Program}{w:World}{base:Nat}{held:Bool}
end
section
variable {w w' :World}{size:Nat}{R:List Value→Prop}{A:Option Addr}{len cap:Nat}{xs:List (List Value)}
end
section
variable {H:Type}{enc:TypeId×Value→H}{P:Program}{w:World}{base:Nat}{spare:Nat→Bool}{held:Bool}
end
end
theorem dI (d:Nat)(a b:Int)(W:World):(Op.equalIn (d+1) 3 (.int .i64 a) (.int .i64 b)).run Tryz.prog W= .ok (a == b) W:=by
 simp [Op.equalIn,run_underlying Tryz.underlying3]
theorem qP (e f:En)(d:Nat)(W:World):(Op.equalIn (d+1+1) dR e.v f.v).run Tryz.prog W= .ok (decide (e=f)) W:=by
 obtain ⟨k,tick,te,ce,ot,ep,fr,un,n⟩:=e;obtain ⟨k',iY,te',ce',ot',ep',fr',un',n'⟩:=f;have hp:Tryz.prog.stoodInHeld dR=false:=by kernel_rfl
 rw [Op.equalIn];simp only [En.v,Sem.run_bind,run_underlying Tryz.underlying49,Result.andThen_ok,run_program,hp,Bool.false_eq_true,if_false];have pa0:∀W:World,(part 3 #[.int .i64 k,.int .i64 tick,.int .i64 te,.int .i64 ce,.int .i64 ot,.int .i64 ep,.int .i64 fr,.int .i64 un,.int .i64 n] 0).run Tryz.prog W= .ok (.int .i64 k) W:=fun _=>by kernel_rfl
 have pb0:∀W:World,(part 3 #[.int .i64 k',.int .i64 iY,.int .i64 te',.int .i64 ce',.int .i64 ot',.int .i64 ep',.int .i64 fr',.int .i64 un',.int .i64 n'] 0).run Tryz.prog W= .ok (.int .i64 k') W:=fun _=>by kernel_rfl
 have pa1:∀W:World,(part 3 #[.int .i64 k,.int .i64 tick,.int .i64 te,.int .i64 ce,.int .i64 ot,.int .i64 ep,.int .i64 fr,.int .i64 un,.int .i64 n] 1).run Tryz.prog W= .ok (.int .i64 tick) W:=fun _=>by kernel_rfl
 have pb1:∀W:World,(part 3 #[.int .i64 k',.int .i64 iY,.int .i64 te',.int .i64 ce',.int .i64 ot',.int .i64 ep',.int .i64 fr',.int .i64 un',.int .i64 n'] 1).run Tryz.prog W= .ok (.int .i64 iY) W:=fun _=>by kernel_rfl
 have pa2:∀W:World,(part 3 #[.int .i64 k,.int .i64 tick,.int .i64 te,.int .i64 ce,.int .i64 ot,.int .i64 ep,.int .i64 fr,.int .i64 un,.int .i64 n] 2).run Tryz.prog W= .ok (.int .i64 te) W:=fun _=>by kernel_rfl
 have pb2:∀W:World,(part 3 #[.int .i64 k',.int .i64 iY,.int .i64 te',.int .i64 ce',.int .i64 ot',.int .i64 ep',.int .i64 fr',.int .i64 un',.int .i64 n'] 2).run Tryz.prog W= .ok (.int .i64 te') W:=fun _=>by kernel_rfl
 have pa3:∀W:World,(part 3 #[.int .i64 k,.int .i64 tick,.int .i64 te,.int .i64 ce,.int .i64 ot,.int .i64 ep,.int .i64 fr,.int .i64 un,.int .i64 n] 3).run Tryz.prog W= .ok (.int .i64 ce) W:=fun _=>by kernel_rfl
 have pb3:∀W:World,(part 3 #[.int .i64 k',.int .i64 iY,.int .i64 te',.int .i64 ce',.int .i64 ot',.int .i64 ep',.int .i64 fr',.int .i64 un',.int .i64 n'] 3).run Tryz.prog W= .ok (.int .i64 ce') W:=fun _=>by kernel_rfl
 have pa4:∀W:World,(part 3 #[.int .i64 k,.int .i64 tick,.int .i64 te,.int .i64 ce,.int .i64 ot,.int .i64 ep,.int .i64 fr,.int .i64 un,.int .i64 n] 4).run Tryz.prog W= .ok (.int .i64 ot) W:=fun _=>by kernel_rfl
 have pb4:∀W:World,(part 3 #[.int .i64 k',.int .i64 iY,.int .i64 te',.int .i64 ce',.int .i64 ot',.int .i64 ep',.int .i64 fr',.int .i64 un',.int .i64 n'] 4).run Tryz.prog W= .ok (.int .i64 ot') W:=fun _=>by kernel_rfl
 have pa5:∀W:World,(part 3 #[.int .i64 k,.int .i64 tick,.int .i64 te,.int .i64 ce,.int .i64 ot,.int .i64 ep,.int .i64 fr,.int .i64 un,.int .i64 n] 5).run Tryz.prog W= .ok (.int .i64 ep) W:=fun _=>by kernel_rfl
 have pb5:∀W:World,(part 3 #[.int .i64 k',.int .i64 iY,.int .i64 te',.int .i64 ce',.int .i64 ot',.int .i64 ep',.int .i64 fr',.int .i64 un',.int .i64 n'] 5).run Tryz.prog W= .ok (.int .i64 ep') W:=fun _=>by kernel_rfl
 have pa6:∀W:World,(part 3 #[.int .i64 k,.int .i64 tick,.int .i64 te,.int .i64 ce,.int .i64 ot,.int .i64 ep,.int .i64 fr,.int .i64 un,.int .i64 n] 6).run Tryz.prog W= .ok (.int .i64 fr) W:=fun _=>by kernel_rfl
 have pb6:∀W:World,(part 3 #[.int .i64 k',.int .i64 iY,.int .i64 te',.int .i64 ce',.int .i64 ot',.int .i64 ep',.int .i64 fr',.int .i64 un',.int .i64 n'] 6).run Tryz.prog W= .ok (.int .i64 fr') W:=fun _=>by kernel_rfl
 have pa7:∀W:World,(part 3 #[.int .i64 k,.int .i64 tick,.int .i64 te,.int .i64 ce,.int .i64 ot,.int .i64 ep,.int .i64 fr,.int .i64 un,.int .i64 n] 7).run Tryz.prog W= .ok (.int .i64 un) W:=fun _=>by kernel_rfl
 have pb7:∀W:World,(part 3 #[.int .i64 k',.int .i64 iY,.int .i64 te',.int .i64 ce',.int .i64 ot',.int .i64 ep',.int .i64 fr',.int .i64 un',.int .i64 n'] 7).run Tryz.prog W= .ok (.int .i64 un') W:=fun _=>by kernel_rfl
 have pa8:∀W:World,(part 3 #[.int .i64 k,.int .i64 tick,.int .i64 te,.int .i64 ce,.int .i64 ot,.int .i64 ep,.int .i64 fr,.int .i64 un,.int .i64 n] 8).run Tryz.prog W= .ok (.int .i64 n) W:=fun _=>by kernel_rfl
 have pb8:∀W:World,(part 3 #[.int .i64 k',.int .i64 iY,.int .i64 te',.int .i64 ce',.int .i64 ot',.int .i64 ep',.int .i64 fr',.int .i64 un',.int .i64 n'] 8).run Tryz.prog W= .ok (.int .i64 n') W:=fun _=>by kernel_rfl
 rw [←Array.forIn_toList];simp only [List.forIn_cons,List.forIn_nil,ne_eq,String.reduceEq,not_false_eq_true,if_true,Sem.run_bind,Result.andThen_ok,dI,pa0,pb0]
 by_cases h0:k=k'
 case neg=>simp [h0]
 subst h0;simp only [beq_self_eq_true,Bool.not_true,Bool.false_eq_true,if_false,Sem.run_pure,Result.andThen_ok];simp only [Sem.run_bind,pa1,pb1,Result.andThen_ok,dI]
 by_cases h1:tick=iY
 case neg=>simp [h1]
 subst h1;simp only [beq_self_eq_true,Bool.not_true,Bool.false_eq_true,if_false,Sem.run_pure,Result.andThen_ok];simp only [Sem.run_bind,pa2,pb2,Result.andThen_ok,dI]
 by_cases h2:te=te'
 case neg=>simp [h2]
 subst h2;simp only [beq_self_eq_true,Bool.not_true,Bool.false_eq_true,if_false,Sem.run_pure,Result.andThen_ok];simp only [Sem.run_bind,pa3,pb3,Result.andThen_ok,dI]
 by_cases h3:ce=ce'
 case neg=>simp [h3]
 subst h3;simp only [beq_self_eq_true,Bool.not_true,Bool.false_eq_true,if_false,Sem.run_pure,Result.andThen_ok];simp only [Sem.run_bind,pa4,pb4,Result.andThen_ok,dI]
 by_cases h4:ot=ot'
 case neg=>simp [h4]
 subst h4;simp only [beq_self_eq_true,Bool.not_true,Bool.false_eq_true,if_false,Sem.run_pure,Result.andThen_ok];simp only [Sem.run_bind,pa5,pb5,Result.andThen_ok,dI]
 by_cases h5:ep=ep'
 case neg=>simp [h5]
 subst h5;simp only [beq_self_eq_true,Bool.not_true,Bool.false_eq_true,if_false,Sem.run_pure,Result.andThen_ok];simp only [Sem.run_bind,pa6,pb6,Result.andThen_ok,dI]
 by_cases h6:fr=fr'
 case neg=>simp [h6]
 subst h6;simp only [beq_self_eq_true,Bool.not_true,Bool.false_eq_true,if_false,Sem.run_pure,Result.andThen_ok];simp only [Sem.run_bind,pa7,pb7,Result.andThen_ok,dI]
 by_cases h7:un=un'
 case neg=>simp [h7]
 subst h7;simp only [beq_self_eq_true,Bool.not_true,Bool.false_eq_true,if_false,Sem.run_pure,Result.andThen_ok];simp only [Sem.run_bind,pa8,pb8,Result.andThen_ok,dI]
 by_cases h8:n=n'
 case neg=>simp [h8]
 subst h8;simp only [beq_self_eq_true,Bool.not_true,Bool.false_eq_true,if_false,Sem.run_pure,Result.andThen_ok]
 simp
theorem ajc (e f:En)(W:World):(binOp .eql dR e.v f.v).run Tryz.prog W= .ok (.bool (decide (e=f))) W:=by
 have h:=qP e f 9998 W;unfold En.v at*;simp only [binOp]
 simp [Op.equal,Op.maxDepth,h]
theorem qO (op:BinOp)(x y:Operand)(a b:Array Value)(W:World):(eqGuard op dR x y (.agg a) (.agg b)).run Tryz.prog W= .ok () W:=by
 have hm:Tryz.prog.eqGuardType Tryz.prog.depth dR=false:=by kernel_rfl
 cases op<;>simp [eqGuard,run_program,hm]
def sw (e:En)(m b:Int):En:=
 if m=0 then {e with kind:=b} else if m=1 then {e with tick:=b} else if m=2 then {e with aS:=b} else if m=3 then {e with cell:=b} else if m=4 then {e with other:=b} else if m=5 then {e with epoch:=b} else if m=6 then {e with from_:=b} else if m=7 then {e with bA:=b} else {e with n:=b}
theorem vk (e:En)(m b:Int)(h:e.ok)(hb: -9223372036854775808≤b∧b≤9223372036854775807):(sw e m b).ok:=by
 obtain ⟨k,tick,te,ce,ot,ep,fr,un,n⟩:=e;have h' :(-9223372036854775808≤k∧k≤9223372036854775807)∧(-9223372036854775808≤tick∧tick≤9223372036854775807)∧(-9223372036854775808≤te∧te≤9223372036854775807)∧(-9223372036854775808≤ce∧ce≤9223372036854775807)∧(-9223372036854775808≤ot∧ot≤9223372036854775807)∧(-9223372036854775808≤ep∧ep≤9223372036854775807)∧(-9223372036854775808≤fr∧fr≤9223372036854775807)∧(-9223372036854775808≤un∧un≤9223372036854775807)∧(-9223372036854775808≤n∧n≤9223372036854775807):=by simpa [En.ok,En.l] using h
 unfold sw
 repeat' split
 all_goals
  simp only [En.ok,En.l,List.mem_cons,List.not_mem_nil,or_false,forall_eq_or_imp,forall_eq];simp only [and_assoc] at h' hb ⊢
  omega
theorem su (e:En)(which b:Int)(w:World):
  Calls Tryz.prog 42 #[e.v,.int .i64 which,.int .i64 b] w fun r w' =>r= .returned (sw e (which % 9) b).v∧Fr No w w' :=by
 obtain ⟨k,tick,te,ce,ot,ep,fr,un,n⟩:=e;unfold En.v;have hm:=fun W=>dO which 9 W dcd dcd;have h0:=Int.emod_nonneg which (b:=9) dcd;have h9:=Int.emod_lt_of_pos which (b:=9) dcd;revert hm h0 h9;generalize which % 9=m;intro hm h0 h9;have HM:=O hm;clear hm;have hcase:m=0∨m=1∨m=2∨m=3∨m=4∨m=5∨m=6∨m=7∨m=8:=by omega
 rcases hcase with rfl|rfl|rfl|rfl|rfl|rfl|rfl|rfl|rfl
 all_goals
  go_in
  go_wp2_with fail
  refine (HM.out _).mono ?_;rintro e w1 ⟨rfl,rfl⟩
  go_wp2_with fail
  refine bodyPost_ret (v:= .agg _) (by simp [results,Tryz.results42,go_sem];simp [sw]) rfl ⟨rfl,?_⟩;exact ((Fr.refl _ _).alloc _).alloc _
structure oq where
 which:Int
 a:Int
 b:Int
def oq.cells (x:oq):List Value:=[.int .i64 x.which,.int .i64 x.a,.int .i64 x.b]
structure oq.ok (x:oq):Prop where
 which: -9223372036854775808≤x.which∧x.which≤9223372036854775807
 a: -9223372036854775808≤x.a∧x.a≤9223372036854775807
 b: -9223372036854775808≤x.b∧x.b≤9223372036854775807
structure rA (w:World) (A:Option Addr) (len cap:Nat) (acts:List oq):Prop where
 count:acts.length=len
 most:len≤maxLen
 anp:A=none→len=0
 reads:Rd w w.heap.size A (acts.map oq.cells).flatten
 each:∀a∈acts,a.ok
theorem rA.at_ {w w' :World}{A:Option Addr}{len cap:Nat}{acts:List oq}(h:rA w A len cap acts)(hf:Fr No w w'){i:Nat}(hi:i<len):
  ∃b off a,A=some ⟨b,off,none⟩∧acts[i]? =some a∧a.ok∧w'.cell? ⟨b,off+i*3,none⟩=some (.int .i64 a.which)∧w'.cell? ⟨b,off+i*3+1,none⟩=some (.int .i64 a.a)∧w'.cell? ⟨b,off+i*3+2,none⟩=some (.int .i64 a.b):=by
 have hsz:∀x∈acts.map oq.cells,x.length=3:=by
  intro x hx;obtain ⟨a,_,rfl⟩:=List.mem_map.1 hx
  rfl
 have hil:i<acts.length:=by rw [h.count];exact hi
 have hfl:=xY hsz;rw [List.length_map] at hfl;obtain ⟨b,off,hA,hb,hc⟩:=(h.reads.ak hf (Nat.le_refl _)).at_ (by rw [hfl];omega);have hg:∀j,j<3→w'.cell? ⟨b,off+(i*3+j),none⟩=(acts[i].cells)[j]? :=by
  intro j hj;rw [hc (i*3+j) (by rw [hfl];omega),←List.getElem?_eq_getElem,xZ hsz i j (by simpa using hil) hj]
  simp
 exact ⟨b,off,acts[i],hA,List.getElem?_eq_getElem hil,h.each _ (List.getElem_mem hil),hg 0 oy,hg 1 oy,hg 2 oy⟩
theorem rA.at2 {w:World}{A:Option Addr}{len cap:Nat}{acts:List oq}(h:rA w A len cap acts){i:Nat}(hi:i<len):
  ∃b off a,A=some ⟨b,off,none⟩∧acts[i]? =some a∧a.ok∧∀w' :World,Fr No w w'→w'.cell? ⟨b,off+i*3,none⟩=some (.int .i64 a.which)∧w'.cell? ⟨b,off+i*3+1,none⟩=some (.int .i64 a.a)∧w'.cell? ⟨b,off+i*3+2,none⟩=some (.int .i64 a.b):=by
 obtain ⟨b,off,a,rfl,ha,hok,_⟩:=h.at_ (Fr.refl No w) hi;refine ⟨b,off,a,rfl,ha,hok,fun w' hf=> ?_⟩;obtain ⟨b',off',a',e1,e2,_,h1,h2,h3⟩:=h.at_ hf hi;rw [ha] at e2;injection e1 with e1;injection e1 with e3 e4;injection e2 with e2;subst e2 e3 e4;exact ⟨h1,h2,h3⟩
def In_steps (w:World)(v:Value):Prop:=∃A len cap acts,v= .slice A len cap∧rA w A len cap acts∧len≤cap∧cap≤maxLen
theorem kT {x:Int}(h1:0≤x)(h2:x≤18446744073709551615):∃n:Nat,x=(n:Int)∧n<18446744073709551616:=⟨x.toNat,by omega,by omega⟩
def ajp (w:World)(r:List UInt8)(e:Ending)(w' :World):Prop:=
 ∃A' c',e= .returned (.slice A' r.length c')∧Own w' (fun i=>w.heap.size≤i) 5 (.slice A' r.length c') (r.map bv)∧Fr No w w'
set_option maxHeartbeats 2000000 in
theorem acz (A:Option Addr)(n c:Nat)(key:Int)(A2:Option Addr)(m c2:Nat)(l p:List UInt8)(w:World)(B:Nat)(hA:A=none→n=0)(hl:l.length=n)(hr:Rd w B A (l.map bv))(hA2:A2=none→m=0)(hp:p.length=m)(hr2:Rd w B A2 (p.map bv))(hB:B≤w.heap.size)(hsz:n≤140737488280000)(hm:m≤65536):
  Calls Tryz.prog 153 #[.slice A n c,.int .i64 key,.slice A2 m c2] w (ajp w (l++eT key p)):=by
 obtain ⟨i0,hi0,hz0,hz1,hz2⟩:=info_parts bD;have hput:eT key p=qK key p++p:=by unfold eT;rw [if_pos (by rw [hp];exact hm)]
 have hel:=aP (aV (m:Int)) (bq _ oy oy);obtain ⟨S0,hS0,hSl⟩:=kT (pO key p) (pQ key p);have al8 :(wM key p).toNat=S0:=by rw [hS0,Int.toNat_natCast]
 have hhead:qK key p=bX (aV (m:Int))++leN 8 S0:=by unfold qK;rw [hp,al8]
 rw [hput,hhead];obtain ⟨HA,HN,HR,HA2,HP,HR2,HS⟩:=nC hA hl hr hA2 hp hr2 hS0;have ht:decide ((65536:Int)<(m:Int))=false:=by simp;omega
 clear hA hl hr hA2 hp hr2 hS0 al8 hput hhead
 go_in
 go_wp2_with fail
 refine (iN A n c (m:Int) l _ B HA.out HN.out HR.out hB oy oy oy).mono ?_;rintro e w1 ⟨A1,c1,rfl,o1,f1⟩;generalize bX (aV (m:Int))=E at*;obtain ⟨O1,F1⟩:=aO o1 f1;clear o1 f1
 go_wp2_with fail
 refine (wS _ _ _ _ p _ HP.out mxl (HR2.out.ak F1.out hB)).mono ?_;rintro e w2 ⟨rfl,rfl⟩;rw [HS.out]
 go_wp2_with fail
 go_loopw [7,8,21] (fun b s i wr=>∃(A' :Option Addr) (c' k:Nat) (q:List UInt8) (S:Nat),k≤8∧i= .int .i64 (k:Int)∧q.length=k∧b= .slice A' (n+E.length+k) c'∧s= .int .u64 (S:Int)∧S<18446744073709551616∧leN 8 S0=q++leN (8-k) S∧Own wr (fun i=>w.heap.size≤i) 5 (.slice A' (n+E.length+k) c') ((l++(E++q)).map bv)∧Fr No w wr) (fun _ _ i _=>8-(intOf i).toNat)
 case atStart=>exact ⟨A1,c1,0,[],S0,Nat.zero_le _,rfl,rfl,rfl,rfl,hSl,rfl,by simpa using O1.out,F1.out⟩
 case round=>
  obtain ⟨A',c',k,q,S,hk,rfl,hq,rfl,rfl,hS,he,ho,hf⟩:=hrel;obtain ⟨HQ,HE,O2,F2⟩:=fK hq he ho hf;have hs2:w.heap.size≤wr.heap.size:=hf.size;clear hq he ho hf
  by_cases hlt:k<8
  ·have hb:[Value.int .u8 ((S:Int) % 256)]=[UInt8.ofNat (S % 256)].map bv:=by
    simp only [List.map_cons,List.map_nil,bv,UInt8.toNat_ofNat'];rw [show ((S:Int) % 256)=((S % 256 % 2 ^ 8:Nat):Int) from by omega]
   obtain ⟨HB,P2⟩:=aO hb (O2.out.ak (aj wr (.cells #[.int .u8 ((S:Int) % 256)] 5)));clear hb
   go_wp2_with (at_builtin;refine ay _ rfl (.tmp 23) (.tmp 26) _ rfl 0 5 i0 _ 1 Tryz.underlying128 hi0 hz0 hz1 hz2 rfl _ (n+E.length+k) ((l++(E++q)).map bv) rfl ?c0 (wr.heap.size+1) _ 1 1 ([UInt8.ofNat (S % 256)].map bv) rfl (fun h=>by cases h) ?c1 rfl (dS _) ?c4 ?c5 (Nat.zero_le _) ?_)
   case c0=>exact P2.out.own (by rw [List.length_map,List.length_append,List.length_append,HN.out,HQ.out];omega)
   case c1=>exact Rd.new wr [.int .u8 ((S:Int) % 256)] 5 HB.out
   case c4=>unfold maxLen;omega
   case c5=>omega
   intro v3 w3 happ;obtain ⟨o3,f3⟩:=P2.out.aT (n:=n+E.length+k) (m:=1) (news:=[bv (UInt8.ofNat (S % 256))]) (v' :=v3) (w' :=w3) (by simp;omega) (by rw [List.length_map,List.length_append,List.length_append,HN.out,HQ.out];omega) rfl (by simpa using happ);have e3:(l++(E++q)).map bv++[bv (UInt8.ofNat (S % 256))]=(l++(E++(q++[UInt8.ofNat (S % 256)]))).map bv:=by simp
   have hl3:((l++(E++(q++[UInt8.ofNat (S % 256)]))).map bv).length=n+E.length+(k+1):=by simp [HN.out,HQ.out];omega
   rw [e3] at o3;obtain ⟨A3,c3,rfl,n3⟩:=o3.form;rw [hl3] at o3 ⊢;obtain ⟨O3,F3⟩:=aO o3 ((F2.out.alloc (.cells #[.int .u8 ((S:Int) % 256)] 5)).aA f3 fun i hi=>hi);clear happ o3 f3 n3 e3 hl3
   go_wp2_with fail
   go_roundw
   case rel=>
    refine ⟨A3,c3,k+1,q++[UInt8.ofNat (S % 256)],S / 256,by omega,by go_num,by simp [HQ.out],rfl,by go_num,by omega,?_,O3.out,F3.out⟩;rw [HE.out,show 8-k=(8-(k+1))+1 from by omega]
    simp [leN]
   case measure=>simp [intOf];omega
  ·obtain rfl:k=8:=by omega
   have he8:leN 8 S0=q:=by rw [HE.out];simp [leN]
   have P2:=O2.out;rw [←he8] at P2;have O2' :=O P2;have hfl:((l++(E++leN 8 S0)).map bv).length=n+E.length+8:=by simp [HN.out,cK];omega
   have HFL:=O hfl;clear he8 P2 O2 HQ HE hfl
   go_wp2_with (at_builtin;refine ay _ rfl (.tmp 31) (.tmp 32) _ rfl 0 5 i0 _ 1 Tryz.underlying128 hi0 hz0 hz1 hz2 rfl _ (n+E.length+8) ((l++(E++leN 8 S0)).map bv) rfl ?c0 B A2 m c2 (p.map bv) rfl ?c1 ?c2 ?c3 (dS _) ?c4 ?c5 (Nat.zero_le _) ?_)
   case c0=>exact O2'.out.own HFL.out
   case c1=>exact HA2.out
   case c2=>exact HR2.out.ak F2.out hB
   case c3=>rw [List.length_map,HP.out]
   case c4=>unfold maxLen;omega
   case c5=>omega
   intro v3 w3 happ;obtain ⟨o3,f3⟩:=O2'.out.aT (n:=n+E.length+8) (m:=m) (news:=p.map bv) (v' :=v3) (w' :=w3) hs2 HFL.out (by rw [List.length_map,HP.out]) (by simpa using happ);have e3:(l++(E++leN 8 S0)).map bv++p.map bv=(l++(E++leN 8 S0++p)).map bv:=by simp
   rw [e3] at o3;obtain ⟨A3,c3,rfl,n3⟩:=o3.form;rw [List.length_map] at o3;obtain ⟨O3,F3⟩:=aO o3 (F2.out.aA f3 fun i hi=>hi);clear happ o3 f3 n3 e3;rw [List.length_map];generalize (l++(E++leN 8 S0++p))=r at*
   go_wp2_with fail
   go_ret
   exact ⟨A3,c3,rfl,O3.out,F3.out⟩
def jq (w:World)(f:Frm)(e:Ending)(w' :World):Prop:=
 ∃A c,e= .returned (.tuple #[.slice A f.p.length c,.int .i64 (f.k:Int),.int .i64 f.e])∧Own w' (fun i=>w.heap.size≤i) 5 (.slice A f.p.length c) (f.p.map bv)∧Fr No w w'
theorem jq.err (w:World)(x:Int):jq w (lN x) (.returned (.tuple #[.slice none 0 0,.int .i64 0,.int .i64 x])) w:=
 ⟨none,0,rfl,Own.nil _ _ _,Fr.refl _ _⟩
theorem ac6 (q:List UInt8)(x:UInt8)(k:Nat)(hq:q.length=k)(hk:k<8):
  bits BinOp.or IntKind.u64 ((fu q:Nat):Int) (IntKind.u64.wrap ((x.toNat:Int)*2 ^ (8*k)))=((fu (q++[x]):Nat):Int):=by
 have hx:=x.toNat_lt;have hv:=yH q;rw [hq] at hv;have uT:(2:Nat) ^ (8*k)=256 ^ k:=by rw [Nat.pow_mul]
 have hle:256 ^ k≤256 ^ 7:=Nat.pow_le_pow_right oy oy;have hle2:256 ^ k*x.toNat≤256 ^ 7*255:=Nat.mul_le_mul hle oy;have e2:(x.toNat:Int)*2 ^ (8*k)=((256 ^ k*x.toNat:Nat):Int):=by
  rw [←uT]
  push_cast
  rw [Int.mul_comm]
 rw [e2,IntKind.wrap_u64];have e3:((256 ^ k*x.toNat:Nat):Int) % 18446744073709551616=((256 ^ k*x.toNat:Nat):Int):=by omega
 rw [e3,u64_or_nat _ _ oy oy]
 congr 1
 rw [Nat.or_comm,←uT];rw [←uT] at hv;rw [←Nat.two_pow_add_eq_or_of_lt hv,uW,hq];simp only [fu];rw [uT,show x.toNat+256*0=x.toNat from by omega]
 omega
set_option maxHeartbeats 2000000 in
theorem aar (A:Option Addr)(n c:Nat)(key:Int)(l:List UInt8)(w:World)(B:Nat)(hA:A=none→n=0)(hl:l.length=n)(hr:Rd w B A (l.map bv))(hsz:n≤140737488355328)(hnc:n≤c):
  Calls Tryz.prog 135 #[.slice A n c,.int .i64 key] w (jq w (aN key l)):=by
 obtain ⟨i0,hi0,hz0,hz1,hz2⟩:=info_parts bD;obtain ⟨HA,HL,HR⟩:=bP hA hl hr;have HD:Hid (aN key l=aN key l):=rfl;unfold aN at HD;clear hA hl hr
 by_cases he:(dw l).e=0
 ·obtain ⟨N,n1,n2,n3,n4,n5,n6⟩:=tO l he
  obtain ⟨k,hk⟩:∃k,k=(dw l).k:=⟨_,rfl⟩;have hkn:k≤n:=by rw [hk,n4,←HL.out];exact n5
  have hTK:dw l=⟨N,k,0⟩:=by
   rcases ht:dw l with ⟨x,y,z⟩
   rw [ht] at n3 he hk;simp only at n3 he hk;rw [n3,he,hk]
  have TK:=O hTK;clear he n3 n4 n5 n6 hk hTK
  by_cases hN0:N<0
  ·have HF:Hid (aN key l=lN 18):=by
    show aN key l=lN 18
    unfold aN;rw [TK.out,if_neg (by simp),if_pos hN0]
   rw [HF.out]
   go_in
   go_wp2_with fail
   refine (iT _ _ _ l _ _ HL.out mxl HR.out).mono ?_;rintro e w1 ⟨rfl,rfl⟩;rw [TK.out]
   go_wp2_with fail
   go_ret3
   exact jq.err _ _
  ·by_cases hN1:65536<N
   ·have HF:Hid (aN key l=lN 2):=by
     show aN key l=lN 2
     unfold aN;rw [TK.out,if_neg (by simp),if_neg hN0,if_pos hN1]
    rw [HF.out]
    go_in
    go_wp2_with fail
    refine (iT _ _ _ l _ _ HL.out mxl HR.out).mono ?_;rintro e w1 ⟨rfl,rfl⟩;rw [TK.out]
    go_wp2_with fail
    go_ret3
    exact jq.err _ _
   ·obtain ⟨m,rfl⟩:∃m:Nat,N=(m:Int):=⟨N.toNat,by omega⟩
    by_cases hsh:(n:Int)-k<8+(m:Int)
    ·have HF:Hid (aN key l=lN 17):=by
      show aN key l=lN 17
      unfold aN;rw [TK.out,if_neg (by simp),if_neg hN0,if_neg hN1,if_pos (by rw [HL.out];exact hsh)]
     rw [HF.out]
     go_in
     go_wp2_with fail
     refine (iT _ _ _ l _ _ HL.out mxl HR.out).mono ?_;rintro e w1 ⟨rfl,rfl⟩;rw [TK.out]
     go_wp2_with fail
     go_ret3
     exact jq.err _ _
    ·have hfit:k+8+m≤n:=by omega
     have hm1:m≤65536:=by omega
     clear hN0 hN1
     go_in
     go_wp2_with fail
     refine (iT _ _ _ l _ _ HL.out mxl HR.out).mono ?_;rintro e w1 ⟨rfl,rfl⟩;rw [TK.out]
     go_wp2_with fail
     go_loop [10,39] (fun s i=>∃(j:Nat),j≤8∧i= .int .i64 (j:Int)∧s= .int .u64 ((fu ((l.drop k).take j):Nat):Int)) (fun _ i=>8-(intOf i).toNat)
     case atStart=>exact ⟨0,Nat.zero_le _,rfl,rfl⟩
     case round=>
      obtain ⟨j,hj,rfl,rfl⟩:=hrel
      by_cases hlt:j<8
      ·obtain ⟨b,off,rfl,_,hc⟩:=HR.out.at_ (by rw [List.length_map,HL.out];omega)
       have hck:=hc (k+j) (by rw [List.length_map,HL.out];omega);simp only [List.getElem_map] at hck;have hx256:(l[k+j]'(by rw [HL.out];omega)).toNat<256:=UInt8.toNat_lt _;clear hc;have hor:=ac6 ((l.drop k).take j) (l[k+j]'(by rw [HL.out];omega)) j (by rw [List.length_take,List.length_drop,HL.out];omega) hlt;have hsn:(l.drop k).take (j+1)=(l.drop k).take j++[l[k+j]'(by rw [HL.out];omega)]:=by
        rw [List.take_succ_eq_append_getElem (by rw [List.length_drop,HL.out];omega),List.getElem_drop]
       obtain ⟨HO,HSN⟩:=aO hor hsn;clear hor hsn
       go_wp2_with fail
       refine ⟨⟨j+1,by omega,by go_num,?_⟩,by simp [intOf];omega⟩;rw [HO.out,HSN.out]
      ·obtain rfl:j=8:=by omega
       obtain ⟨U,hU⟩:∃U,U=fu ((l.drop k).take 8):=⟨_,rfl⟩;rw [←hU];have HU:=O hU;clear hU;have hkc:k+8+m≤c:=by omega
       obtain ⟨p,hp⟩:∃p,p=(l.drop (k+8)).take m:=⟨_,rfl⟩;have HPL:Hid (p.length=m):=by
        show p.length=m
        rw [hp,List.length_take,List.length_drop,HL.out]
        omega
       have hpm:p.length≤65536:=by rw [HPL.out];exact hm1
       obtain ⟨S0,hS0,hSl⟩:=kT (pO key p) (pQ key p);have HS:=O hS0;have HOK:Hid (U=S0→aN key l=⟨p,k+8+m,0⟩):=by
        show U=S0→aN key l=⟨p,k+8+m,0⟩
        intro hus;unfold aN;rw [TK.out,if_neg (by simp),if_neg (by simp only;omega),if_neg (by simp only;omega),if_neg (by simp only;rw [HL.out];omega)];simp only [Int.toNat_natCast];rw [←HU.out,←hp,hS0,if_neg (by rw [hus];simp)]
       have HNO:Hid (¬U=S0→aN key l=lN 18):=by
        show ¬U=S0→aN key l=lN 18
        intro hus;unfold aN;rw [TK.out,if_neg (by simp),if_neg (by simp only;omega),if_neg (by simp only;omega),if_neg (by simp only;rw [HL.out];omega)];simp only [Int.toNat_natCast];rw [←HU.out,←hp,hS0,if_pos (by intro h;exact hus (Int.natCast_inj.1 h))]
       have HPD:=O hp;clear hp hS0 hm1 TK
       by_cases hcc:c=k+8
       ·obtain rfl:m=0:=by omega
        have HP0:Hid (p=[]):=List.eq_nil_of_length_eq_zero HPL.out;subst hcc
        go_wp2_with (at_builtin;refine ay _ rfl _ (.tmp 64) _ rfl 0 5 i0 _ 1 Tryz.underlying128 hi0 hz0 hz1 hz2 rfl (.slice none 0 0) 0 [] rfl (World.ownsRow_nil _ _ _ _) B _ _ _ (p.map bv) rfl ?c1 ?c2 ?c3 (dS p) ?c4 ?c5 (Nat.zero_le _) ?_)
        case c2=>rw [HP0.out];exact Rd.nil
        case c3=>rw [HP0.out]
        intro v2 w2 happ;obtain ⟨o2,f2⟩:=(Own.nil w (fun i=>w.heap.size≤i) 5).aT (Nat.le_refl _) rfl (by rw [List.length_map,HPL.out]) happ;rw [List.nil_append] at o2;obtain ⟨A2,c2,rfl,n2⟩:=o2.form;rw [List.length_map] at o2 ⊢;obtain ⟨O2,F2⟩:=aO o2 ((Fr.refl No w).aA f2 fun i hi=>hi);clear happ o2 f2 n2
        go_wp2_with fail
        refine (wS _ _ _ _ p _ rfl mxl O2.out.rd).mono ?_;rintro e w3 ⟨rfl,rfl⟩;rw [HS.out]
        by_cases hus:U=S0
        ·have ht:((U:Int) != (S0:Int))=false:=by rw [hus];simp
         have HUS:=O hus;clear hus
         go_wp2_with fail
         go_ret3
         rw [HOK.out HUS.out];refine ⟨A2,c2,?_,O2.out,F2.out⟩
         simp [HPL.out]
        ·have ht:((U:Int) != (S0:Int))=true:=by simp;omega
         have HUS:=O hus;clear hus
         go_wp2_with fail
         go_ret3
         rw [HNO.out HUS.out];exact ⟨none,0,rfl,Own.nil _ _ _,F2.out⟩
       ·obtain ⟨b,off,rfl,hbB,hc⟩:=HR.out.at_ (by rw [List.length_map,HL.out];omega)
        have R1:Hid (Rd w B (some ⟨b,off+(k+8),none⟩) (p.map bv)):=by
         show Rd w B (some ⟨b,off+(k+8),none⟩) (p.map bv)
         rw [HPD.out,List.map_take,List.map_drop];exact (HR.out.drop (k+8)).take m
        clear hc
        go_wp2_with (at_builtin;refine ay _ rfl _ (.tmp 64) _ rfl 0 5 i0 _ 1 Tryz.underlying128 hi0 hz0 hz1 hz2 rfl (.slice none 0 0) 0 [] rfl (World.ownsRow_nil _ _ _ _) B _ _ _ (p.map bv) rfl ?d1 ?d2 ?d3 (dS p) ?d4 ?d5 (Nat.zero_le _) ?_)
        case d2=>exact R1.out
        case d3=>exact HPL.out
        case d4=>unfold maxLen;omega
        case d5=>omega
        intro v2 w2 happ;obtain ⟨o2,f2⟩:=(Own.nil w (fun i=>w.heap.size≤i) 5).aT (Nat.le_refl _) rfl (by rw [List.length_map,HPL.out]) happ;rw [List.nil_append] at o2;obtain ⟨A2,c2,rfl,n2⟩:=o2.form;rw [List.length_map] at o2 ⊢;obtain ⟨O2,F2⟩:=aO o2 ((Fr.refl No w).aA f2 fun i hi=>hi);clear happ o2 f2 n2
        go_wp2_with fail
        refine (wS _ _ _ _ p _ rfl mxl O2.out.rd).mono ?_;rintro e w3 ⟨rfl,rfl⟩;rw [HS.out]
        by_cases hus:U=S0
        ·have ht:((U:Int) != (S0:Int))=false:=by rw [hus];simp
         have HUS:=O hus;clear hus
         go_wp2_with fail
         go_ret3
         rw [HOK.out HUS.out];refine ⟨A2,c2,?_,O2.out,F2.out⟩
         simp [HPL.out]
        ·have ht:((U:Int) != (S0:Int))=true:=by simp;omega
         have HUS:=O hus;clear hus
         go_wp2_with fail
         go_ret3
         rw [HNO.out HUS.out];exact ⟨none,0,rfl,Own.nil _ _ _,F2.out⟩
 ·have HF:Hid (aN key l=lN (dw l).e):=by
   show aN key l=lN (dw l).e
   unfold aN;rw [if_pos he]
  rw [HF.out];have hz:(dw l).n=0∧(dw l).k=0:=by
   rcases yI 10 [] l with h|h|h
   ·exact absurd h he
   ·unfold dw;rw [h];exact ⟨rfl,rfl⟩
   ·unfold dw;rw [h];exact ⟨rfl,rfl⟩
  have ht:((dw l).e != 0)=true:=by simpa using he
  have ht2:((dw l).e == 0)=false:=by simpa using he
  clear he hz
  go_in
  go_wp2_with fail
  refine (iT _ _ _ l _ _ HL.out mxl HR.out).mono ?_;rintro e w1 ⟨rfl,rfl⟩
  go_wp2_with fail
  go_ret3
  exact (jq.err w (dw l).e)
end Go.Proofs.YtjnfmfmglehmbaaGreat
