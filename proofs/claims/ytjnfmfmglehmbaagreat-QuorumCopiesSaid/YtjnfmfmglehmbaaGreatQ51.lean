/-
  The program's quorum: Copy.
-/
import Derived.Test.YtjnfmfmglehmbaaGreatQ32
import Derived.Test.YtjnfmfmglehmbaaGreatQ22
namespace Go.Proofs.YtjnfmfmglehmbaaGreat
open Go.ChangeShapes Go.WideShapes Go.ChangeAt Go.RowKit
set_option linter.unusedVariables false
set_option maxRecDepth 100000
set_option maxHeartbeats 4000000
def rz (w:World)(q:Qs)(n z k:Nat)(W:World):Prop:=
 ∃(lab:Nat→Option Nat) (pv:Nat→Nat) (A:Option Addr) (c:Nat) (NV DV:Value) (vs:List Value),(∀b j,lab b=some j→w.heap.size≤b∧b<W.heap.size)∧lab z=some 0∧Blk W z oO #[.slice A k c,NV,DV]∧Own W (part lab 1) TPR (.slice A k c) ((List.range k).map fun i=> .pointer (some ⟨pv i,0,none⟩))∧(∀i,i<k→RAt W (part lab (10+i)) (pv i) (q.rs i) n)∧gB W (part lab 2) (part lab 3) NV q.net vs∧bG W (part lab 4) 49 9 DV q.done.length (gV q.done)∧Fr No w W
theorem rz.next {w wr W1 W' :World}{n z k p:Nat}{lab:Nat→Option Nat}{pv:Nat→Nat}{A:Option Addr}{c:Nat}{F:Nat→Prop}{v' NV DV:Value}{vs:List Value}{q:Qs}
  (h1:∀b j,lab b=some j→w.heap.size≤b∧b<wr.heap.size) (h2:lab z=some 0) (h3:Blk wr z oO #[.slice A k c,NV,DV]) (h4:Own wr (part lab 1) TPR (.slice A k c) ((List.range k).map fun i=> .pointer (some ⟨pv i,0,none⟩)))
  (h5:∀i,i<k→RAt wr (part lab (10+i)) (pv i) (q.rs i) n) (hm:gB wr (part lab 2) (part lab 3) NV q.net vs) (hd:bG wr (part lab 4) 49 9 DV q.done.length (gV q.done)) (h6:Fr No w wr) (hr:RAt W1 F p (q.rs k) n) (hF:∀i,F i→wr.heap.size≤i) (hf:Fr No wr W1)
  (ha:dV (W1.alloc (.cells #[.pointer (some ⟨p,0,none⟩)] TPR)) 0 TPR (.slice A k c) k ((List.range k).map fun i=> .pointer (some ⟨pv i,0,none⟩)) [.pointer (some ⟨p,0,none⟩)] 1 v' W'):
  rz w q n z (k+1) (W'.setCell ⟨z,0,none⟩ v')∧Fr (part lab 1) W1 W' :=by
 classical
 have hf2:Fr No wr (W1.alloc (.cells #[.pointer (some ⟨p,0,none⟩)] TPR)):=hf.alloc _;obtain ⟨o1,f1⟩:=(h4.ak hf2).appended (by simp) rfl ha;obtain ⟨pv2,hpv2⟩:∃pv2:Nat→Nat,pv2=fun i=>if i=k then p else pv i:=⟨_,rfl⟩
 rw [show ((List.range k).map (fun i=>Value.pointer (some (⟨pv i,0,none⟩:Addr)))++[Value.pointer (some ⟨p,0,none⟩)])=(List.range (k+1)).map (fun i=>Value.pointer (some (⟨pv2 i,0,none⟩:Addr))) from by
  rw [List.range_succ,List.map_append,List.map_singleton,hpv2];simp only [if_true]
  congr 1
  apply List.map_congr_left
  intro i hi;rw [if_neg (by have:=List.mem_range.1 hi;omega)]] at o1
 have hlen:((List.range (k+1)).map (fun i=>Value.pointer (some (⟨pv2 i,0,none⟩:Addr)))).length=k+1:=by simp
 obtain ⟨A',c',hv,-⟩:=o1.form;rw [hlen] at hv;subst hv;have hsz:=hf.size;have hsa:(W1.alloc (.cells #[.pointer (some ⟨p,0,none⟩)] TPR)).heap.size=W1.heap.size+1:=by simp
 have hs1:=f1.size;have hzl:=(h1 z 0 h2).2;have hrl:=hr.lt;rw [hsa] at hs1;obtain ⟨dG,hlab⟩:∃dG:Nat→Option Nat,dG=fun b=>if b<wr.heap.size then lab b else if F b then some (10+k) else if b=W1.heap.size+1∧b<W'.heap.size then some 1 else none:=⟨_,rfl⟩
 have ho:∀b,b<wr.heap.size→dG b=lab b:=fun b hb=>by rw [hlab];exact if_pos hb
 have hold:∀j b,lab b=some j→dG b=some j:=fun j b hb=>by rw [ho b (h1 b j hb).2];exact hb
 have hfz:Fr (fun b=>b=z) W' (W'.setCell ⟨z,0,none⟩ (.slice A' (k+1) c')):=dx W' ⟨z,0,none⟩ _;have hlt2:∀b j,dG b=some j→w.heap.size≤b∧b<(W'.setCell ⟨z,0,none⟩ (.slice A' (k+1) c')).heap.size:=fun b j hb=>by
  have h6s:=h6.size;have h7s:=hfz.size;rw [hlab] at hb;simp only at hb
  split at hb
  ·have:=h1 b j hb
   omega
  ·split at hb
   ·have:=hrl b ‹_›
    omega
   ·split at hb
    ·omega
    ·cases hb
 have hne:∀i j:Nat,i≠j→∀b,lab b=some i→¬lab b=some j:=fun i j hij b hi hj=>by
  rw [hi] at hj;injection hj with hj;exact hij hj
 have hFn:∀b,F b→¬part lab 1 b:=fun b hb hh=>by
  have:=hF b hb;have:=(h1 b 1 hh).2
  omega
 refine ⟨⟨dG,pv2,A',c',NV,DV,vs,hlt2,hold 0 z h2,?_,?_,fun i hi=> ?_,?_,?_,?_⟩,((aj W1 _).mono (G:=part lab 1) fun _ h=>h.elim).trans f1 fun b hb=> .inl hb⟩
 ·have hz2:Blk W' z oO #[.slice A k c,NV,DV]:=(h3.fr hf2 id).fr f1 (hne 0 1 oy z h2)
  exact (hz2.aU 0 _).conv rfl
 ·refine ((o1.fr hfz fun b hb e=> ?_).mono fun b hb=> ?_)
  ·rcases hb with hb|⟨hb,-⟩
   ·exact hne 1 0 oy b hb (e▸h2)
   ·rw [hsa] at hb;omega
  ·rcases hb with hb|⟨hb,hb2⟩
   ·exact hold 1 b hb
   ·rw [hsa] at hb
    show dG b=some 1
    rw [hlab];simp only;rw [if_neg oy,if_neg (fun hh=>by have:=hrl b hh;omega),if_pos ⟨hb,hb2⟩]
 ·by_cases hik:i=k
  ·subst hik
   have hpi:pv2 i=p:=by rw [hpv2];exact if_pos rfl
   rw [hpi];refine ((((hr.ak (aj _ _)).fr f1 hFn).fr hfz fun b hb e=> ?_).mono (fun b hb=> ?_) fun b hb=>(hlt2 b _ hb).2)
   ·have:=hF b hb
    omega
   ·show dG b=some (10+i)
    rw [hlab];simp only;rw [if_neg (by have:=hF b hb;omega),if_pos hb]
  ·have hpi:pv2 i=pv i:=by rw [hpv2];exact if_neg hik
   rw [hpi];exact ((((h5 i oy).ak hf2).fr f1 (hne (10+i) 1 oy)).fr hfz (fun b hb e=>hne (10+i) 0 oy b hb (e▸h2))).mono (hold (10+i)) fun b hb=>(hlt2 b _ hb).2
 ·exact (((hm.ak hf2).fr f1 (hne 2 1 oy) (hne 3 1 oy)).fr hfz (fun b hb e=>hne 2 0 oy b hb (e▸h2)) (fun b hb e=>hne 3 0 oy b hb (e▸h2))).same (hold 2) (hold 3) (fun b hi hj=>by
   have hi:dG b=some 2:=hi;have hj:dG b=some 3:=hj;rw [hi] at hj
   cases hj) (fun b hb=>(hlt2 b _ hb).2) (fun b hb=>(hlt2 b _ hb).2)
 ·exact ((((hd.ak hf2).fr' f1 fun g hg=>hne 4 1 oy g (hd.2 g hg)).fr' hfz fun g hg e=>hne 4 0 oy g (hd.2 g hg) (e▸h2))).mono (hold 4)
 ·have hfin:Fr No w W' :=(h6.ah hf2).trans f1 fun b hb=> .inr (h1 b 1 hb).1
  exact hfin.trans hfz fun b hb=> .inr (by have:=h1 z 0 h2;omega)
theorem rz.done {w W:World}{q:Qs}{n z:Nat}(h:rz w q n z q.n W)(hok:lu q):∃lab pv,QAt W lab z pv q n∧(∀b j,lab b=some j→w.heap.size≤b)∧Fr No w W:=by
 obtain ⟨lab,pv,A,c,NV,DV,vs,a1,a2,a3,a4,a5,a6,a7,a8⟩:=h;exact ⟨lab,pv,⟨fun b k hb=>(a1 b k hb).2,⟨A,c,NV,DV,vs,a3,a4,a6,a7⟩,a2,fun i hi=>a5 i hi,hok⟩,fun b j hb=>(a1 b j hb).1,a8⟩
theorem rz.start {w w1 w2:World}{q:Qs}{n c4 d4:Nat}{A4 D4:Option Addr}{Gs Ge:Nat→Prop}{vs:List Value}(hm:gB w1 Gs Ge (.slice A4 q.net.length c4) q.net vs)(hs:∀b,Gs b→w.heap.size≤b)(he:∀b,Ge b→w.heap.size≤b)(f1:Fr No w w1)
  (hd:bG w2 (fun b=>w1.heap.size≤b) 49 9 (.slice D4 q.done.length d4) q.done.length (gV q.done)) (f2:Fr No w1 w2) {W:World} (hf:Fr No w2 W):
  rz w q n W.heap.size 0 (W.alloc (.cells #[.slice none 0 0,.slice A4 q.net.length c4,.slice D4 q.done.length d4] oO)):=by
 classical
 have s1:=f1.size;have s2:=f2.size;have s3:=hf.size;have hf3:Fr No w2 (W.alloc (.cells #[.slice none 0 0,.slice A4 q.net.length c4,.slice D4 q.done.length d4] oO)):=hf.alloc _;have hsa:(W.alloc (.cells #[.slice none 0 0,.slice A4 q.net.length c4,.slice D4 q.done.length d4] oO)).heap.size=W.heap.size+1:=by simp
 have hlS:=hm.ltS;have hlE:=hm.ltE;obtain ⟨lab,hlab⟩:∃lab:Nat→Option Nat,lab=fun b=>if b=W.heap.size then some 0 else if Gs b then some 2 else if Ge b then some 3 else if w1.heap.size≤b∧b<w2.heap.size then some 4 else none:=⟨_,rfl⟩
 have l2:∀b,Gs b→lab b=some 2:=fun b hb=>by
  have:=hlS b hb;rw [hlab];simp only;rw [if_neg oy,if_pos hb]
 have l3:∀b,Ge b→lab b=some 3:=fun b hb=>by
  have:=hlE b hb;rw [hlab];simp only;rw [if_neg oy,if_neg (fun hh=>hm.apart b hh hb),if_pos hb]
 have l4:∀b,w1.heap.size≤b→b<w2.heap.size→lab b=some 4:=fun b hb hb2=>by
  rw [hlab];simp only;rw [if_neg oy,if_neg (fun hh=>by have:=hlS b hh;omega),if_neg (fun hh=>by have:=hlE b hh;omega),if_pos ⟨hb,hb2⟩]
 have hrg:∀b j,lab b=some j→w.heap.size≤b∧b<W.heap.size+1:=fun b j hb=>by
  rw [hlab] at hb;simp only at hb
  split at hb
  ·omega
  ·split at hb
   ·have:=hlS b ‹_›;have:=hs b ‹_›;omega
   ·split at hb
    ·have:=hlE b ‹_›;have:=he b ‹_›;omega
    ·split at hb
     ·omega
     ·cases hb
 refine ⟨lab,fun _=>0,none,0,.slice A4 q.net.length c4,.slice D4 q.done.length d4,vs,fun b j hb=>by rw [hsa];exact hrg b j hb,by rw [hlab];exact if_pos rfl,Blk.new _ _ _,Own.nil _ _ _,fun i hi=>absurd hi (Nat.not_lt_zero i),?_,?_,(f1.ah f2).ah hf3⟩
 ·exact (hm.ak (f2.ah hf3)).same l2 l3 (aG (show (2:Nat)≠3 by omega)) (fun b hb=>by rw [hsa];exact (hrg b 2 hb).2) (fun b hb=>by rw [hsa];exact (hrg b 3 hb).2)
 ·have hlt:=hd.lt
  exact ⟨(hd.ak hf3).1,fun g hg=>l4 g (hd.2 g hg) (hlt g hg)⟩
section
variable {w w' :World}{lab lab' :Nat→Option Nat}{z n m:Nat}{pv:Nat→Nat}{q q1:Qs}{F:Nat→Prop}
set_option maxHeartbeats 8000000 in
theorem akz (h:QAt w lab z pv q n):Calls Tryz.prog 29 #[.pointer (some ⟨z,0,none⟩)] w fun e w' =>∃z' lab' pv',e= .returned (.pointer (some ⟨z',0,none⟩))∧QAt w' lab' z' pv' q n∧(∀b j,lab' b=some j→w.heap.size≤b)∧Fr No w w' :=by
 obtain ⟨i1,hi1,hz0,hz1,hz2⟩:=info_parts yR;have hok:=h.ok;have h5:=h.ok.five;obtain ⟨br,cr,hnc,hcm,hrow⟩:=h.row;have hcp:=fun W (hf:Fr No w W) i hi=>ahe ((h.ak hf).jN i hi);obtain ⟨Ar,cr',NV,DV,ns,h1,h2,h3,h4⟩:=h.mem;obtain ⟨An,cn,rfl,-⟩:=h3.own.form;obtain ⟨Ad,cd,rfl,hdn⟩:=h4.form;have hmo:=fun W (hf:Fr No w W)=>tH (h3.ak hf) h.ok.net (fun m hm=>(h.ok.msgs m hm).few);have hcl:=fun W (hf:Fr No w W)=>qQ W Ad q.done.length cd (gV q.done) hdn (h4.ak hf).rd (uL _) (fun u hu=>by obtain ⟨e,-,hu⟩:=List.mem_flatMap.1 hu;exact uK e u hu) (by have:=h.ok.done;omega);have hzl:=h1.lt;have hk:∀V,Fr No w V→V.cell? ⟨z,0,none⟩=some (.slice (some ⟨br,0,none⟩) q.n cr)∧V.cell? ⟨z,1,none⟩=some (.slice An q.net.length cn)∧V.cell? ⟨z,2,none⟩=some (.slice Ad q.done.length cd):=fun V hf=>⟨(hrow V hf).1,(h1.fr hf fun h=>h).cell 1,(h1.fr hf fun h=>h).cell 2⟩;obtain ⟨c0,c1,c2⟩:=hk w (Fr.refl _ _);have hst:=fun w1 w2 W A4 c4 D4 d4 Gs Ge vs hm hs he f1 hd f2 hf=>rz.start (w:=w) (w1:=w1) (w2:=w2) (W:=W) (q:=q) (n:=n) (A4:=A4) (c4:=c4) (D4:=D4) (d4:=d4) (Gs:=Gs) (Ge:=Ge) (vs:=vs) hm hs he f1 hd f2 hf;unfold maxLen at hcm;clear h h1 h2 h3 h4 hdn;obtain ⟨L,hL⟩:∃L,L=q.net.length:=⟨_,rfl⟩;obtain ⟨D,hD⟩:∃D,D=q.done.length:=⟨_,rfl⟩;obtain ⟨N,hN⟩:∃N,N=q.n:=⟨_,rfl⟩;unfold ae2 at hmo;unfold mI at hcl;simp only [←hL,←hD,←hN] at hk hmo hcl hnc h5 hcp hrow hst c0 c1 c2;obtain ⟨HOK,HCP,HMO,HCL,HK,aot,HL,HD,HN,HST⟩:=lH hok hcp hmo hcl hk hrow hL hD hN hst;clear hok hcp hmo hcl hk hrow hL hD hN hst
 go_in
 go_wp2_with fail
 go_cut [3] (fun x wx=>∃z',x= .pointer (some ⟨z',0,none⟩)∧rz w q n z' 0 wx∧Fr No w wx)
 case first=>
  have hd:=HK.out w.drew (Fr.refl No w).drew
  go_region_held3 (fun V=>V.cell? ⟨z,0,none⟩=some (.slice (some ⟨br,0,none⟩) N cr)∧V.cell? ⟨z,1,none⟩=some (.slice An L cn)∧V.cell? ⟨z,2,none⟩=some (.slice Ad D cd)) (first|exact hd|exact HK.out _ frz) (first
   |(go_at_call 76;refine (HMO.out _ frz).mono ?_;rintro e v1 ⟨A4,c4,Gs,Ge,vs,rfl,o1,s1,e1,f1'⟩;have F1:Fr No w v1:=Fr.ah frz f1';have S1:=O (show (∀b,Gs b→w.heap.size≤b)∧∀b,Ge b→w.heap.size≤b from ⟨fun b hb=>Nat.le_trans (by simp) (s1 b hb),fun b hb=>Nat.le_trans (by simp) (e1 b hb)⟩);have O1:=O o1;clear f1' o1 s1 e1)
   |(go_at_call 77;refine (HCL.out _ frz).mono ?_;rintro e v2 ⟨A6,c6,rfl,o2,f2'⟩;have F2' :=O f2';have F2:Fr No w v2:=Fr.ah frz f2';have O2:=O o2;clear f2' o2))
  all_goals
   go_wp2_with fail
   go_meet
   exact ⟨_,rfl,HST.out _ _ _ _ _ _ _ _ _ _ O1.out S1.out.1 S1.out.2 F1 O2.out F2'.out (by repeat (first|exact Fr.refl _ _|refine Fr.drew ?_|refine Fr.drewN ?_ _)),by repeat (first|assumption|refine Fr.alloc ?_ _|refine Fr.drew ?_)⟩
 obtain ⟨z',rfl,hst,fst⟩:=hcut;generalize wc=W1 at*;have FST:=O fst;clear c0 c1 c2 HMO HCL HST;obtain ⟨c0,c1,c2⟩:=HK.out W1 fst;clear fst;have HST:=O hst;clear hst;have adu:=nll hzl FST.out.size
 go_wp2_with fail
 go_loopw [23] (fun i wr=>∃k:Nat,k≤N∧i= .int .i64 k∧rz w q n z' k wr) (fun i _=>N-(intOf i).toNat)
 case atStart=>exact ⟨0,Nat.zero_le _,rfl,HST.out⟩
 case round=>
  obtain ⟨k,hk,rfl,hrel⟩:=hrel
  by_cases hlt:k<N
  ·have b1:decide (k<N)=true:=decide_eq_true hlt
   have b2:decide ((k:Int)<(N:Int))=true:=dtt;have hk2:(k:Int)<(N:Int):=by omega
   obtain ⟨lab,pv',A,c,NV,DV,vs,a1,a2,a3,a4,a5,a6,a7,a8⟩:=hrel;have ck:=(aot.out wr a8).2 k hlt;have hnew:=fun W (hf:Fr No wr W)=>HCP.out W (a8.ah hf) k hlt;have hcap:=a4.cap;have aj8:=(a1 z' 0 a2).2;have hz0' :=fun W (hf:Fr No wr W)=>(⟨(a3.fr hf fun h=>h).cell 0,(a3.fr hf fun h=>h).frozen 0⟩:W.cell? ⟨z',0,none⟩=some (.slice A k c)∧W.frozen? ⟨z',0,none⟩=false);have hz1' :=fun W W' (hf:Fr No wr W) (hf' :Fr (part lab 1) W W')=>(⟨((a3.fr hf fun h=>h).fr hf' (aG oy z' a2)).cell 0,((a3.fr hf fun h=>h).fr hf' (aG oy z' a2)).frozen 0⟩:W'.cell? ⟨z',0,none⟩=some (.slice A k c)∧W'.frozen? ⟨z',0,none⟩=false);have hown:=fun W (hf:Fr No wr W)=>(a4.ak hf).1;have hnext:=fun W1 W' p F v' hr hF hf ha=>rz.next (w:=w) (W1:=W1) (W' :=W') (p:=p) (F:=F) (v' :=v') a1 a2 a3 a4 a5 a6 a7 a8 hr hF hf ha;simp only [List.length_map,List.length_range] at hown;obtain ⟨x3,y3⟩:=hz0' wr (Fr.refl No wr);clear a1 a2 a3 a4 a5 a6 a7 a8;have nG:=O hnew;have aa3 :=O hz0';have aa2 :=O hz1';obtain ⟨HOWN,fJ⟩:=aO hown hnext;clear hnew hz0' hz1' hown hnext
   go_wp2_with fail
   go_region_law (first
    |(go_simp;go_at_call 18;refine (nG.out _ fry).mono ?_;rintro e v1 ⟨p,F,rfl,r1,r2,r3⟩;have f9:Fr No wr v1:=Fr.ah fry r3;obtain ⟨x3,y3⟩:=aa3.out _ f9;have hnx:=O fun W' v' ha=>fJ.out v1 W' p F v' r1 (fun i hi=>Nat.le_trans (by simp) (r2 i hi)) f9 ha;have R3:=O f9;have ara:=nll aj8 f9.size;clear r1 r2 r3 f9)
    |(refine gM _ (by rfl) (.tmp 31) (.tmp 34) _ (by rfl) 0 TPR i1 _ 8 Tryz.underlying102 hi1 hz0 hz1 hz2 rfl (.slice A k c) k ((List.range k).map fun i=> .pointer (some ⟨pv' i,0,none⟩)) (by rfl) (HOWN.out _ (R3.out.alloc _)) (v1.heap.size+1) (some ⟨v1.heap.size,0,none⟩) 1 1 [.pointer (some ⟨p,0,none⟩)] (by rfl) (fun h=>by cases h) (Rd.new v1 _ TPR rfl) rfl (fun u hu=>by simp at hu;subst hu;rfl) mxl oy (Nat.zero_le _) ?_;intro v2 w2 happ;obtain ⟨t9,f9⟩:=hnx.out w2 _ happ;obtain ⟨A4,c4,rfl,n4⟩:=aC happ.1;obtain ⟨x3,y3⟩:=aa2.out _ _ R3.out f9;have atc:=nll ara f9.size;have T9:=O t9;clear happ t9 f9 n4))
   all_goals
    go_wp2_with fail
    go_roundw
    case rel=>exact ⟨k+1,by omega,by go_num,T9.out⟩
    case measure=>simp [intOf];omega
  ·obtain rfl:k=N:=by omega
   have b1:decide (k<k)=false:=by simp
   have T9:=O (rz.done (by rw [HN.out] at hrel;exact hrel) HOK.out);clear hrel
   go_wp2_with fail
   go_ret
   obtain ⟨lab,pv,t1,t2,t3⟩:=T9.out;exact ⟨z',lab,pv,rfl,t1,t2,t3⟩
end
end Go.Proofs.YtjnfmfmglehmbaaGreat
