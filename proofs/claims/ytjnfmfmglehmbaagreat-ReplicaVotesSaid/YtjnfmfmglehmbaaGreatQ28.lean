/-
  The plain law of the steps of a script.
-/
import Derived.Test.YtjnfmfmglehmbaaGreatQ26
import Derived.Test.YtjnfmfmglehmbaaGreatQ27
namespace Go.Proofs.YtjnfmfmglehmbaaGreat
open Go.ChangeShapes Go.WideShapes Go.ChangeAt Go.RowKit
set_option linter.unusedVariables false
set_option maxRecDepth 100000
set_option maxHeartbeats 4000000
section
def dB (wh:Int):Int:=if wh % 16≤1 then 1 else if wh % 16≤4 then 2 else if wh % 16=5 then 3 else if wh % 16=6 then 5 else if wh % 16=7 then 6 else if wh % 16=8 then 7 else 4
def iI (wh num:Int)(net:Nat):Int:=if dB wh=4∨dB wh=5∨dB wh=6 then num % (max net 1:Nat) else num
def eX (q:Qs)(a:oq):Qs:=q.act (dB a.which) (a.a % q.n) (iI a.which a.b q.net.length) (bE (a.b % 1000))
def kC (q:Qs)(a:oq)(q' :Qs):Prop:=if a.b.tmod 5=0 then ∃k,Flushes a.a (eX q a) 0 q' k else q' =eX q a
inductive iX (q:Qs):List oq→Qs→Prop
 |nil:iX q [] q
 |snoc (l:List oq) (q1:Qs) (a:oq) (q2:Qs):iX q l q1→kC q1 a q2→iX q (l++[a]) q2
section
variable {q q' q1 q2 q3:Qs}{g:Gh}{a:oq}{l:List oq}{s:Nat}{up T:Int}{k:Nat}{L:List Lg}
theorem agy (q:Qs)(a b c:Int)(e:En):(q.act a b c e).n=q.n:=by
 unfold Qs.act
 split
 ·rfl
 ·split
  ·rfl
  ·split
   ·rfl
   ·split
    ·rfl
    ·split
     ·rfl
     ·split
      ·rfl
      ·split<;>rfl
theorem Flushes.n {c c' :Nat}(hf:Flushes up q c q' c'):q'.n=q.n:=by
 induction hf with
 |stop=>rfl
 |skip q c m l q' c' hk hm h0 hn ih=>exact ih
 |give q c m l q' c' hk hm h0 hn ih=>exact ih
theorem vg (q:Qs)(a:oq):(eX q a).n=q.n:=agy _ _ _ _ _
theorem kC.n (h:kC q a q'):q'.n=q.n:=by
 unfold kC at h
 split at h
 ·obtain ⟨k,hf⟩:=h
  exact hf.n.trans (vg q a)
 ·rw [h,vg]
theorem iX.n (h:iX q l q'):q'.n=q.n:=by
 induction h with
 |nil=>rfl
 |snoc l q1 a q2 h1 h2 ih=>exact h2.n.trans ih
theorem xP (b:Int):(bE (b % 1000)).ok:=kR _ (Int.emod_nonneg _ dcd) (Int.emod_lt_of_pos _ dcd)
theorem iX.nil_eq {l:List oq}(h:iX q l q')(hl:l=[]):q' =q:=by
 induction h with
 |nil=>rfl
 |snoc l q1 a q2 h1 h2 ih=>simp at hl
theorem iX.one' {l:List oq}(h:iX q l q')(hl:l=[a]):kC q a q' :=by
 induction h with
 |nil=>cases hl
 |snoc l q1 b q2 h1 h2 ih=>
  have h3:l++[b]=([]:List oq)++[a]:=hl;obtain ⟨e1,e2⟩:=List.append_inj' h3 rfl;injection e2 with e2;rw [h1.nil_eq e1] at h2;rw [←e2];exact h2
theorem iX.one (h:iX q [a] q'):kC q a q' :=h.one' rfl
theorem qE (rs:Nat→Rs):∀k:Nat,gX rs k= -1∨(0≤gX rs k∧gX rs k<k):=by
 intro k
 induction k with
 |zero=>exact .inl rfl
 |succ k ih=>
  simp only [gX]
  split
  ·exact .inr ⟨by omega,by omega⟩
  ·rcases ih with h|h
   ·exact .inl h
   ·exact .inr ⟨h.1,by omega⟩
end
end
section
section
variable {w w' :World}{lab lab' :Nat→Option Nat}{z n m:Nat}{pv:Nat→Nat}{q:Qs}{F:Nat→Prop}
theorem QAt.row (h:QAt w lab z pv q n):∃br cr,q.n≤cr∧cr≤maxLen∧∀W,Fr No w W→W.cell? ⟨z,0,none⟩=some (.slice (some ⟨br,0,none⟩) q.n cr)∧∀i,i<q.n→W.cell? ⟨br,i,none⟩=some (.pointer (some ⟨pv i,0,none⟩)):=by
 obtain ⟨Ar,cr,NV,DV,vs,h1,h2,h3,h4⟩:=h.mem;have hp:=h.ok.pos;have hc:=h2.cap;obtain ⟨br,rfl,hbl,-,hb⟩:=iV h2 hp;refine ⟨br,cr,hc.1,hc.2,fun W hf=>⟨(h1.fr hf id).cell 0,fun i hi=> ?_⟩⟩;have:=(hb i (by simpa using hi)).1;rw [hf.cell (p:=⟨br,i,none⟩) hbl id,this]
 simp
set_option maxHeartbeats 1000000 in
theorem vL (h:QAt w lab z pv q n)(i:Int):Calls Tryz.prog 115 #[.pointer (some ⟨z,0,none⟩),.int .i64 i] w fun e w' =>e= .returned (.bool (decide (0≤i∧i<q.n)))∧w=w' :=by
 obtain ⟨br,cr,hnc,hcm,hr⟩:=h.row;have h5:=h.ok.five;obtain ⟨c0,-⟩:=hr w (Fr.refl _ _);generalize q.n=N at*;clear h hr;unfold maxLen at hcm
 by_cases h0:0≤i
 ·by_cases h1:i<N
  ·have t2:decide (i<(N:Int))=true:=by simpa using h1
   have hy:decide (0≤i∧i<(N:Int))=true:=by simp;omega
   rw [hy];clear hy
   go_in
   go_wp2_with fail
   go_ret
   exact ⟨rfl,rfl⟩
  ·have t2:decide (i<(N:Int))=false:=by simpa using h1
   have hy:decide (0≤i∧i<(N:Int))=false:=by simp;omega
   rw [hy];clear hy
   go_in
   go_wp2_with fail
   go_ret
   exact ⟨rfl,rfl⟩
 ·have t1:decide (0≤i)=false:=by simpa using h0
  have hy:decide (0≤i∧i<(N:Int))=false:=by simp;omega
  rw [hy];clear hy
  go_in
  go_wp2_with fail
  go_ret
  exact ⟨rfl,rfl⟩
set_option maxHeartbeats 1000000 in
theorem ak1 (h:QAt w lab z pv q n)(i:Nat)(hi:i<q.n):Calls Tryz.prog 72 #[.pointer (some ⟨z,0,none⟩),.int .i64 (i:Int)] w fun e w' =>e= .returned (.int .i64 ((q.rs i).role))∧w=w' :=by
 have hh:=vL h (i:Int);rw [show decide (0≤(i:Int)∧(i:Int)<(q.n:Int))=true from by simp;omega] at hh;have hc:=vO (h.jN i hi);obtain ⟨br,cr,hnc,hcm,hr⟩:=h.row;have h5:=h.ok.five;obtain ⟨c0,cr0⟩:=hr w (Fr.refl _ _);have ci:=cr0 i hi;have hi2:(i:Int)<(q.n:Int):=by omega
 unfold maxLen at hcm;generalize (q.rs i).role=X at*;clear h hr cr0;obtain ⟨HH,HC⟩:=aO hh hc;clear hh hc
 go_in
 go_wp2_with fail
 refine HH.out.mono ?_;rintro e w1 ⟨rfl,rfl⟩
 go_wp2_with fail
 refine HC.out.mono ?_;rintro e w1 ⟨rfl,rfl⟩
 go_wp2_with fail
 go_ret
 exact ⟨rfl,rfl⟩
set_option maxHeartbeats 1000000 in
theorem ak0 (h:QAt w lab z pv q n)(i:Nat)(hi:i<q.n):Calls Tryz.prog 73 #[.pointer (some ⟨z,0,none⟩),.int .i64 (i:Int)] w fun e w' =>e= .returned (.int .i64 ((q.rs i).js.term))∧w=w' :=by
 have hh:=vL h (i:Int);rw [show decide (0≤(i:Int)∧(i:Int)<(q.n:Int))=true from by simp;omega] at hh;have hc:=iq (h.jN i hi).rj;obtain ⟨br,cr,hnc,hcm,hr⟩:=h.row;have h5:=h.ok.five;obtain ⟨c0,cr0⟩:=hr w (Fr.refl _ _);have ci:=cr0 i hi;have hi2:(i:Int)<(q.n:Int):=by omega
 unfold maxLen at hcm;generalize (q.rs i).js.term=X at*;clear h hr cr0;obtain ⟨HH,HC⟩:=aO hh hc;clear hh hc
 go_in
 go_wp2_with fail
 refine HH.out.mono ?_;rintro e w1 ⟨rfl,rfl⟩
 go_wp2_with fail
 refine HC.out.mono ?_;rintro e w1 ⟨rfl,rfl⟩
 go_wp2_with fail
 go_ret
 exact ⟨rfl,rfl⟩
set_option maxHeartbeats 1000000 in
theorem afv (h:QAt w lab z pv q n)(i:Nat)(hi:i<q.n):Calls Tryz.prog 75 #[.pointer (some ⟨z,0,none⟩),.int .i64 (i:Int)] w fun e w' =>e= .returned (.int .i64 (((q.rs i).commit:Int)))∧w=w' :=by
 have hh:=vL h (i:Int);rw [show decide (0≤(i:Int)∧(i:Int)<(q.n:Int))=true from by simp;omega] at hh;have hc:=kM (h.jN i hi);obtain ⟨br,cr,hnc,hcm,hr⟩:=h.row;have h5:=h.ok.five;obtain ⟨c0,cr0⟩:=hr w (Fr.refl _ _);have ci:=cr0 i hi;have hi2:(i:Int)<(q.n:Int):=by omega
 unfold maxLen at hcm;generalize ((q.rs i).commit:Int)=X at*;clear h hr cr0;obtain ⟨HH,HC⟩:=aO hh hc;clear hh hc
 go_in
 go_wp2_with fail
 refine HH.out.mono ?_;rintro e w1 ⟨rfl,rfl⟩
 go_wp2_with fail
 refine HC.out.mono ?_;rintro e w1 ⟨rfl,rfl⟩
 go_wp2_with fail
 go_ret
 exact ⟨rfl,rfl⟩
set_option maxHeartbeats 1000000 in
theorem anl (h:QAt w lab z pv q n)(i:Nat)(hi:i<q.n):Calls Tryz.prog 74 #[.pointer (some ⟨z,0,none⟩),.int .i64 (i:Int)] w (zM w (q.rs i).js.log):=by
 have hh:=vL h (i:Int);rw [show decide (0≤(i:Int)∧(i:Int)<(q.n:Int))=true from by simp;omega] at hh;have hc:=ac4 (h.jN i hi).rj (h.jN i hi).ok.log.few;obtain ⟨br,cr,hnc,hcm,hr⟩:=h.row;have h5:=h.ok.five;obtain ⟨c0,cr0⟩:=hr w (Fr.refl _ _);have ci:=cr0 i hi;have hi2:(i:Int)<(q.n:Int):=by omega
 unfold maxLen at hcm;generalize (q.rs i).js.log=X at*;clear h hr cr0;obtain ⟨HH,HC⟩:=aO hh hc;clear hh hc
 go_in
 go_wp2_with fail
 refine HH.out.mono ?_;rintro e w1 ⟨rfl,rfl⟩
 go_wp2_with fail
 refine HC.out.mono ?_;rintro e w1 m1;have M:=O m1;obtain ⟨A,c,rfl,-⟩:=m1
 go_wp2_with fail
 go_ret
 exact M.out
end
end
section
abbrev TEq:TypeId:=49
theorem uM:(Tryz.prog.info? TEq).map (fun i=>(i.zero,i.size,i.bytes))=some (some (.agg #[.int .i64 0,.int .i64 0,.int .i64 0,.int .i64 0,.int .i64 0,.int .i64 0,.int .i64 0,.int .i64 0,.int .i64 0]),9,72):=by kernel_rfl
theorem adf (w:World)(cs:List Value)(t:TypeId):∀(j:Nat) (u:Value),cs[j]? =some u→(w.alloc (.cells cs.toArray t)).cell? ((⟨w.heap.size,0,none⟩:Addr).add j)=some u:=by
 intro j u hu;have ea:(⟨w.heap.size,0,none⟩:Addr).add j=⟨w.heap.size,0+j,none⟩:=by unfold Addr.add;split<;>simp_all
 rw [ea,Nat.zero_add,(Blk.new w t cs.toArray).cell]
 simpa using hu
section
variable {w w' :World}{lab lab' :Nat→Option Nat}{z n m:Nat}{pv:Nat→Nat}{q:Qs}{F:Nat→Prop}
theorem QAt.wU {Ar:Option Addr}{cr:Nat}{NV DV DV' :Value}{done' :List En}{vs:List Value}(h:QAt w lab z pv q n)(h1:Blk w z oO #[.slice Ar q.n cr,NV,DV])
  (h2:Own w (part lab 1) TPR (.slice Ar q.n cr) ((List.range q.n).map fun i=> .pointer (some ⟨pv i,0,none⟩))) (h3:gB w (part lab 2) (part lab 3) NV q.net vs)
  (hf:Fr (fun b=>lab b=some 0) w w') (ho:∀b,b<w.heap.size→lab' b=lab b) (hn:∀b k,w.heap.size≤b→lab' b=some k→k=4∧b<w'.heap.size)
  (hz:Blk w' z oO #[.slice Ar q.n cr,NV,DV']) (hm:bG w' (part lab' 4) TEq 9 DV' done'.length (gV done')) (hok:lu {q with done:=done'}):QAt w' lab' z pv {q with done:=done'} n:=by
 have hd:∀k,k≠0→∀b,part lab k b→¬lab b=some 0:=fun k k0 b hb hh=>aG k0 b hb hh;have hold:∀k b,lab b=some k→part lab' k b:=fun k b hb=>by
  show lab' b=some k
  rw [ho b (h.lt b k hb)];exact hb
 have hlt:∀b k,lab' b=some k→b<w'.heap.size:=fun b k hb=>by
  rcases Nat.lt_or_ge b w.heap.size with hl|hl
  ·exact nll hl hf.size
  ·exact (hn b k hl hb).2
 refine ⟨hlt,⟨Ar,cr,NV,DV',vs,hz,(h2.fr hf (hd 1 oy)).mono (hold 1),(h3.fr hf (hd 2 oy) (hd 3 oy)).same (hold 2) (hold 3) (aG oy) (fun b hb=>hlt b 2 hb) (fun b hb=>hlt b 3 hb),hm⟩,hold 0 z h.z0,fun i hi=> ?_,hok⟩;exact ((h.jN i hi).fr hf (hd (10+i) oy)).mono (hold (10+i)) (fun b hb=>hlt b _ hb)
def lV (w:World)(lab:Nat→Option Nat)(z:Nat)(pv:Nat→Nat)(q:Qs)(n:Nat)(k:Nat)(W:World):Prop:=
 ∃lab',QAt W lab' z pv {q with done:=iR q.rs q.done k} n∧(∀b,b<w.heap.size→lab' b=lab b)∧(∀b j,w.heap.size≤b→lab' b=some j→j=4)∧Fr (fun b=>lab b=some 0) w W
theorem lV.next {aZ:Nat→Option Nat}{wr W:World}{k g c:Nat}{Q:Qs}{Ar:Option Addr}{cr:Nat}{NV DV:Value}{vs:List Value}{done' :List En}
  (hl1:∀b,b<w.heap.size→aZ b=lab b) (hl2:∀b j,w.heap.size≤b→aZ b=some j→j=4) (hfr:Fr (fun b=>lab b=some 0) w wr)
  (h:QAt wr aZ z pv Q n) (h1:Blk wr z oO #[.slice Ar Q.n cr,NV,DV])
  (h2:Own wr (part aZ 1) TPR (.slice Ar Q.n cr) ((List.range Q.n).map fun i=> .pointer (some ⟨pv i,0,none⟩))) (h3:gB wr (part aZ 2) (part aZ 3) NV Q.net vs)
  (hg:wr.heap.size≤g) (hf:Fr No wr W) (hm:W.ownsRow 0 TEq 9 (.slice (some ⟨g,0,none⟩) done'.length c) done'.length (gV done')) (hd:done'.length≤4096)
  (hnext:{Q with done:=done'}={q with done:=iR q.rs q.done (k+1)}):lV w lab z pv q n (k+1) (W.setCell ⟨z,2,none⟩ (.slice (some ⟨g,0,none⟩) done'.length c)):=by
 have hs1:=hfr.size;have hs2:=hf.size;have hzl:=h.lt z 0 h.z0;have hgl:g<W.heap.size:=(hm.lt g rfl).2;obtain ⟨lab',hlab⟩:∃lab' :Nat→Option Nat,lab' =fun b=>if b<wr.heap.size then aZ b else if b=g then some 4 else none:=⟨_,rfl⟩
 have ho:∀b,b<wr.heap.size→lab' b=aZ b:=fun b hb=>by rw [hlab];exact if_pos hb
 have hn:∀b k,wr.heap.size≤b→lab' b=some k→k=4∧b=g:=fun b k hb hk=>by
  rw [hlab] at hk;simp only at hk;rw [if_neg oy] at hk
  split at hk
  ·rename_i hh
   injection hk with hk;exact ⟨hk.symm,hh⟩
  ·cases hk
 have hg4:lab' g=some 4:=by rw [hlab];simp only;rw [if_neg oy,if_pos trivial]
 have hfz:Fr (fun b=>b=z) W (W.setCell ⟨z,2,none⟩ (.slice (some ⟨g,0,none⟩) done'.length c)):=dx W ⟨z,2,none⟩ _;have hf2:Fr (fun b=>aZ b=some 0) wr (W.setCell ⟨z,2,none⟩ (.slice (some ⟨g,0,none⟩) done'.length c)):=(hf.mono (G:=fun b=>aZ b=some 0) fun _ hi=>hi.elim).setCell (p:=⟨z,2,none⟩) (.inl h.z0) _;have hz1:Blk W z oO #[.slice Ar Q.n cr,NV,DV]:=h1.fr hf id;have hown:bG W (part lab' 4) TEq 9 (.slice (some ⟨g,0,none⟩) done'.length c) done'.length (gV done'):=⟨hm,fun g' hg' =>by
  simp only [Value.ownBlock,Option.some.injEq] at hg';subst hg';exact hg4⟩
 have hq:=h.wU (lab' :=lab') h1 h2 h3 hf2 ho (fun b k hb hk=>⟨(hn b k hb hk).1,by rw [(hn b k hb hk).2];exact nll hgl hfz.size⟩) ((hz1.aU 2 _).conv rfl)
  (hown.fr' hfz fun g' hg' e=>by
   simp only [Value.ownBlock,Option.some.injEq] at hg'
   omega) ⟨h.ok.pos,h.ok.five,h.ok.each,h.ok.net,h.ok.msgs,hd⟩
 rw [hnext] at hq;refine ⟨lab',hq,fun b hb=>(ho b oy).trans (hl1 b hb),fun b j hb hj=> ?_,hfr.trans hf2 fun b hb=> ?_⟩
 ·rcases Nat.lt_or_ge b wr.heap.size with hl|hl
  ·rw [ho b hl] at hj
   exact hl2 b j hb hj
  ·exact (hn b j hl hj).1
 ·rcases Nat.lt_or_ge b w.heap.size with hl|hl
  ·rw [hl1 b hl] at hb
   exact .inl hb
  ·exact .inr hl
set_option maxHeartbeats 8000000 in
theorem akr (h:QAt w lab z pv q n):Calls Tryz.prog 64 #[.pointer (some ⟨z,0,none⟩)] w fun e w' =>e= .returned (.tuple #[])∧lV w lab z pv q n q.n w' :=by
 obtain ⟨i1,hi1,hy0,hy1,hy2⟩:=info_parts uM;have hstart:lV w lab z pv q n 0 w:=⟨lab,h,fun _ _=>rfl,fun b j hb hj=>absurd (h.lt b j hj) oy,Fr.refl _ _⟩;have h5:=h.ok.five;obtain ⟨br,cr0,hnc,hcm,hrow⟩:=h.row;unfold maxLen at hcm;have c0:=(hrow w (Fr.refl _ _)).1;have alg:∀W,Fr (fun b=>lab b=some 0) w W→∀i,i<q.n→W.cell? ⟨br,i,none⟩=some (.pointer (some ⟨pv i,0,none⟩)):=by
  obtain ⟨Ar,cr,NV,DV,vs,h1,h2,-⟩:=h.mem;obtain ⟨br',rfl,hbl,ar3,hb⟩:=iV h2 h.ok.pos;have e1:=c0;rw [h1.cell 0] at e1;have e2:some (Value.slice (some (⟨br',0,none⟩:Addr)) q.n cr)=some (Value.slice (some (⟨br,0,none⟩:Addr)) q.n cr0):=e1;simp only [Option.some.injEq,Value.slice.injEq,Addr.mk.injEq] at e2;obtain rfl:=e2.1.1;intro W hf i hi;rw [hf.cell (p:=⟨br',i,none⟩) hbl (fun hh=>aG (show (1:Nat)≠0 by omega) br' ar3 hh),(hb i (by simpa using hi)).1]
  simp
 clear h hrow;obtain ⟨iw,aos⟩:=aO hstart alg;clear hstart alg
 go_in
 go_wp2_with fail
 go_loopw [12] (fun i wr=>∃k:Nat,k≤q.n∧i= .int .i64 k∧lV w lab z pv q n k wr) (fun i _=>q.n-(intOf i).toNat)
 case atStart=>exact ⟨0,Nat.zero_le _,rfl,iw.out⟩
 case round=>
  obtain ⟨k,hk,rfl,aZ,hq,hl1,hl2,hfr⟩:=hrel
  by_cases hlt:k<q.n
  ·have b1:decide (k<q.n)=true:=by simpa using hlt
   have b2:decide ((k:Int)<(q.n:Int))=true:=by simp;omega
   have hlt2:(k:Int)<(q.n:Int):=by omega
   have rk:=aos.out wr hfr k hlt;have hrep:=hq.jN k hlt;obtain ⟨Q,hQ⟩:∃Q:Qs,Q={q with done:=iR q.rs q.done k}:=⟨_,rfl⟩;rw [←hQ] at hq hrep;have hQn:Q.n=q.n:=by rw [hQ]
   have hQr:Q.rs k=q.rs k:=by rw [hQ]
   have hQd:Q.done=iR q.rs q.done k:=by rw [hQ]
   obtain ⟨Ar,cr,NV,DV,ns,h1,h2,h3,h4⟩:=hq.mem;obtain ⟨Ad,cd,rfl,-⟩:=h4.form;have hd4:=hq.ok.done;have z2:wr.cell? ⟨z,2,none⟩=some (.slice Ad Q.done.length cd):=h1.cell 2;have ald:=hq.lt z 0 hq.z0;have adw:=hrep.ok;rw [hQr] at hrep adw;have hcom:=fun W (hf:Fr No wr W)=>kM (hrep.ak hf);have akb:=fun W (hf:Fr No wr W)=>ac4 (hrep.ak hf).rj adw.log.few;have hcl:=adw.com;have lK:=adw.log.few;have hnx:({q with done:=iR q.rs q.done (k+1)}:Qs)={Q with done:=if (q.rs k).commit≤Q.done.length then Q.done else (((q.rs k).js.log.take (q.rs k).commit).map (·.e))}:=by
    rw [hQd,hQ]
    rfl
   generalize hLL:(q.rs k).js.log=LL at*;generalize hCC:(q.rs k).commit=C at*
   by_cases hle:C≤Q.done.length
   ·have t1:decide (C≤Q.done.length)=true:=by simpa using hle
    have t2:decide ((C:Int)≤(Q.done.length:Int))=true:=by simp;omega
    rw [if_pos hle] at hnx;have T9:=O (show ∀j,lV w lab z pv q n (k+1) (wr.drewN j) from fun j=>⟨aZ,by rw [hnx];exact hq.ak ((Fr.refl No wr).drewN j),hl1,hl2,hfr.drewN j⟩);clear hq h1 h2 h3 h4 hl1 hl2 hfr hrep adw akb hQ hnx hLL hCC hQn hQr hQd;have amy:=O hcom;clear hcom
    go_wp2_with fail
    go_quiet ((go_at_call 14;exact aI (amy.out _ ((Fr.refl No wr).drewN _))))
    go_wp2_with fail
    go_roundw
    case rel=>exact ⟨k+1,by omega,by go_num,T9.out _⟩
    case measure=>simp [intOf];omega
   ·have t1:decide (C≤Q.done.length)=false:=by simpa using hle
    have t2:decide ((C:Int)≤(Q.done.length:Int))=false:=by simp;omega
    rw [if_neg hle] at hnx;have hnext:=fun g c W (hg:wr.heap.size≤g) (hf:Fr No wr W) hm=>lV.next (w:=w) (lab:=lab) (q:=q) (k:=k) (g:=g) (c:=c) (W:=W) (done' :=(LL.take C).map (·.e)) hl1 hl2 hfr hq h1 h2 h3 hg hf hm (by rw [List.length_map,List.length_take];omega) hnx.symm;have hzf:=fun W (hf:Fr No wr W)=>(⟨(h1.fr hf id).cell 2,(h1.fr hf id).frozen 2⟩:W.cell? ⟨z,2,none⟩=some (.slice Ad Q.done.length cd)∧W.frozen? ⟨z,2,none⟩=false);have hlC:((LL.take C).map (·.e)).length=C:=by rw [List.length_map,List.length_take];omega
    rw [hlC] at hnext;clear hq h1 h2 h3 h4 hl1 hl2 hfr hrep adw hQ hnx hLL hCC hQn hQr hQd;obtain ⟨amy,as0,fJ,HZF,HLC⟩:=jr hcom akb hnext hzf hlC;clear hcom akb hnext hzf hlC
    go_wp2_with fail
    go_quiet ((go_at_call 14;exact aI (amy.out _ ((Fr.refl No wr).drewN _))))
    have K1:=O ((Fr.refl No wr).drewN nq);generalize wr.drewN nq=w1 at*;clear z2 rk
    go_wp2_with fail
    refine (amy.out _ K1.out).mono ?_;rintro e w2 ⟨rfl,rfl⟩
    go_wp2_with (refine wpList_make_own _ rfl _ _ 64 rfl 0 TEq i1 _ 9 Tryz.underlying64 hi1 hy0 hy1 .i64 .i64 (C:Int) C rfl rfl rfl (by rw [hy2];omega) mxl (Nat.zero_le _) ?_)
    intro w3 hown3 hgrow3;obtain ⟨g,hg⟩:∃g,g=w1.heap.size:=⟨_,rfl⟩;have hg0:wr.heap.size≤g:=by rw [hg];exact K1.out.size
    have hg3:g<w3.heap.size:=by rw [hg];exact (hown3.lt w1.heap.size rfl).2
    have o3:bG w3 (fun b=>b=g) TEq 9 (.slice (some ⟨g,0,none⟩) 0 C) 0 []:=⟨by rw [hg];exact hown3,fun g' hg' =>by
     simp only [Value.ownBlock,Option.some.injEq] at hg'
     omega⟩
    have f3:Fr No wr w3:=K1.out.grown hgrow3 (fun _ h=>by cases h);rw [←hg];clear hown3 hgrow3 hg K1;obtain ⟨O3,F3⟩:=aO o3 f3;clear o3 f3
    go_wp2_with fail
    refine (as0.out _ F3.out).mono ?_;rintro e w4 ⟨A4,c4,rfl,o4,f4⟩;have ho4:=o4.cap;obtain ⟨b4,rfl,hb4,hF4,-⟩:=o4.head oy;have f5:=F3.out.ah f4;have o5:=O3.out.ak f4;have hcells:=fun (W:World) (hf:Fr (fun b=>b=g) w4 W) (i:Nat) (hi:i<LL.length)=>(Ent.iW (G:=fun b=>w3.heap.size≤b) (o4.fr' hf fun g' hg' e=>by
     simp only [Value.ownBlock,Option.some.injEq] at hg'
     omega)).at_ hi
    have atr:(C:Int)≤(c4:Int):=by omega
    clear o4 f4 F3 O3;obtain ⟨oN,F5,O5⟩:=bP hcells f5 o5;clear hcells f5 o5
    go_wp2_with fail
    refine (amy.out _ F5.out).mono ?_;rintro e w5 ⟨rfl,rfl⟩
    go_wp2_with fail
    go_loopw [4,33] (fun l i wr' =>∃j:Nat,j≤C∧i= .int .i64 j∧l= .slice (some ⟨g,0,none⟩) j C∧bG wr' (fun b=>b=g) TEq 9 l j (gV ((LL.take j).map (·.e)))∧Fr (fun b=>b=g) w4 wr') (fun _ i _=>C-(intOf i).toNat)
    case atStart=>exact ⟨0,Nat.zero_le _,rfl,rfl,by simpa [gV] using O5.out,Fr.refl _ _⟩
    case round=>
     obtain ⟨j,hj,rfl,rfl,oj,fj⟩:=hrel
     by_cases hlj:j<C
     ·have arn:(j:Int)<(C:Int):=by omega
      obtain ⟨b5,o5,x,e5,hx,hcs⟩:=oN.out _ fj j oy;simp only [Option.some.injEq,Addr.mk.injEq] at e5;obtain ⟨rfl,rfl,-⟩:=e5;obtain ⟨d0,d1,d2,d3,d4,d5,d6,d7,d8,d9⟩:=hcs _ (Fr.refl _ _);have hsn:gV ((LL.take (j+1)).map (·.e))=gV ((LL.take j).map (·.e))++x.e.cells:=by
       rw [List.take_add_one,hx,Option.toList_some,List.map_append,List.map_singleton,wB]
      obtain ⟨t,⟨kd,tick,te,ce,ot,ep,fr,un,nn⟩⟩:=x
      change gV _=gV _++En.cells ⟨kd,tick,te,ce,ot,ep,fr,un,nn⟩ at hsn
      simp only [Nat.zero_add] at d0 d1 d2 d3 d4 d5 d6 d7 d8 d9;obtain ⟨W1,hW1⟩:∃W1,W1=World.alloc wr (.cells #[.int .i64 t,.int .i64 kd,.int .i64 tick,.int .i64 te,.int .i64 ce,.int .i64 ot,.int .i64 ep,.int .i64 fr,.int .i64 un,.int .i64 nn] TLg):=⟨_,rfl⟩;have hf1:Fr No wr W1:=by rw [hW1];exact aj _ _
      obtain ⟨gx,hgx⟩:∃gx,gx=wr.heap.size:=⟨_,rfl⟩;have hb1:Blk W1 gx TLg (Lg.cells ⟨t,⟨kd,tick,te,ce,ot,ep,fr,un,nn⟩⟩).toArray:=by rw [hgx,hW1];exact Blk.new _ _ _
      obtain ⟨c0',c1,c2,c3,c4',c5,c6,c7,c8,c9⟩:=kV hb1;simp only at c1 c2 c3 c4' c5 c6 c7 c8 c9;have o1:=oj.ak hf1;have f1:=fj.trans hf1 fun _ h=>h.elim;have hxg:=hb1.lt;clear hx hcs hb1 hf1 oj fj;obtain ⟨HSN,O1,F1,HW1,HGX⟩:=jr hsn o1 f1 hW1 hgx;clear hsn o1 f1 hW1 hgx
      go_upto_region 8 with fail
      rw [←HW1.out,←HGX.out];clear d0 d1 d2 d3 d4 d5 d6 d7 d8 d9;clear HW1 HGX
      go_wp2_with (at_builtin;refine wpList_append_fits _ rfl (.tmp 37) (.tmp 40) 64 rfl 0 TEq i1 9 Tryz.underlying64 hi1 hy1 g j C _ rfl (O1.out.ak (aj _ _)).1 ⟨W1.heap.size,0,none⟩ 1 1 (En.cells ⟨kd,tick,te,ce,ot,ep,fr,un,nn⟩) rfl rfl (adf _ _ _) (uK _) oy ?_)
      intro w6 hown6 aho;rw [←List.map_take,←HSN.out] at hown6;have T9:=O (show bG w6 (fun b=>b=g) TEq 9 (.slice (some ⟨g,0,none⟩) (j+1) C) (j+1) (gV ((LL.take (j+1)).map (·.e)))∧Fr (fun b=>b=g) w4 w6 from ⟨⟨hown6,fun g' hg' =>by
       simp only [Value.ownBlock,Option.some.injEq] at hg';exact hg'.symm⟩,(F1.out.alloc _).grown aho fun k' hk' =>by
       simp only [Option.some.injEq] at hk';exact .inl hk'.symm⟩)
      clear hown6 aho HSN O1 F1
      go_wp2_with fail
      go_roundw
      case rel=>exact ⟨j+1,by omega,by go_num,rfl,T9.out.1,T9.out.2⟩
      case measure=>simp [intOf];omega
     ·obtain rfl:j=C:=by omega
      have F9:=F5.out.aA fj fun _ h=>by omega
      obtain ⟨z9,y9⟩:=HZF.out _ F9;have T9:=O (fJ.out g j _ hg0 F9 oj.1);have hzl:=F9.size;clear F9 fj oj HZF fJ oN F5 O5
      go_wp2_with fail
      refine ⟨⟨k+1,by omega,by go_num,T9.out⟩,?_⟩
      simp [intOf]
      omega
  ·obtain rfl:k=q.n:=by omega
   have b1:decide (q.n<q.n)=false:=by simp
   have T9:=O (show lV w lab z pv q n q.n wr from ⟨aZ,hq,hl1,hl2,hfr⟩);clear hq hl1 hl2 hfr
   go_wp2_with fail
   go_end0
   exact ⟨rfl,T9.out⟩
end
end
section
abbrev fE:TypeId:=51
def eU (kind who num:Int)(e:En):List Value:=[.int .i64 kind,.int .i64 who,.int .i64 num,.int .i64 e.kind,.int .i64 e.tick,.int .i64 e.aS,.int .i64 e.cell,.int .i64 e.other,.int .i64 e.epoch,.int .i64 e.from_,.int .i64 e.bA,.int .i64 e.n]
def gZ (kind who num:Int)(e:En):Value:= .agg #[.int .i64 kind,.int .i64 who,.int .i64 num,.int .i64 e.kind,.int .i64 e.tick,.int .i64 e.aS,.int .i64 e.cell,.int .i64 e.other,.int .i64 e.epoch,.int .i64 e.from_,.int .i64 e.bA,.int .i64 e.n]
theorem aM {w:World}{g:Nat}{kind who num:Int}{e:En}(hb:Blk w g fE (eU kind who num e).toArray):w.cell? ⟨g,0,none⟩=some (.int .i64 kind)∧w.cell? ⟨g,1,none⟩=some (.int .i64 who)∧w.cell? ⟨g,2,none⟩=some (.int .i64 num)∧w.cell? ⟨g,3,none⟩=some (.int .i64 e.kind)∧w.cell? ⟨g,4,none⟩=some (.int .i64 e.tick)∧w.cell? ⟨g,5,none⟩=some (.int .i64 e.aS)∧w.cell? ⟨g,6,none⟩=some (.int .i64 e.cell)∧w.cell? ⟨g,7,none⟩=some (.int .i64 e.other)∧w.cell? ⟨g,8,none⟩=some (.int .i64 e.epoch)∧w.cell? ⟨g,9,none⟩=some (.int .i64 e.from_)∧w.cell? ⟨g,10,none⟩=some (.int .i64 e.bA)∧w.cell? ⟨g,11,none⟩=some (.int .i64 e.n):=
 ⟨hb.cell 0,hb.cell 1,hb.cell 2,hb.cell 3,hb.cell 4,hb.cell 5,hb.cell 6,hb.cell 7,hb.cell 8,hb.cell 9,hb.cell 10,hb.cell 11⟩
section
variable {w w' :World}{lab lab' :Nat→Option Nat}{z n m:Nat}{pv:Nat→Nat}{q:Qs}{F:Nat→Prop}
theorem eF (h:QAt w lab z pv q n)(kind who num:Int)(e:En):Calls Tryz.prog 61 #[.pointer (some ⟨z,0,none⟩),gZ kind who num e] w fun x w' =>x= .returned (.bool (q.permits kind who num))∧Fr No w w' :=by
 have hhas:=fun W (hf:Fr No w W)=>vL (h.ak hf) who;obtain ⟨Ar,cr,NV,DV,vs,h1,h2,h3,h4⟩:=h.mem;have jF:=h.ok.net;obtain ⟨A,c,rfl,-⟩:=h3.own.form;obtain ⟨W0,hW0⟩:∃W0,W0=w.alloc (.cells (eU kind who num e).toArray fE):=⟨_,rfl⟩;have hf0:Fr No w W0:=by rw [hW0];exact aj _ _
 obtain ⟨g,hg⟩:∃g,g=w.heap.size:=⟨_,rfl⟩;have hb0:Blk W0 g fE (eU kind who num e).toArray:=by rw [hg,hW0];exact Blk.new _ _ _
 obtain ⟨c0,c1,c2,-⟩:=aM hb0;have z1:W0.cell? ⟨z,1,none⟩=some (.slice A q.net.length c):=(h1.fr hf0 id).cell 1;have hzl:z<W0.heap.size:=nll (h.lt z 0 h.z0) hf0.size;have hgl:=hb0.lt;have hP:∀b,q.permits kind who num=b→q.permits kind who num=b:=fun _ h=>h;unfold Qs.permits at hP;obtain ⟨Y,hY⟩:∃Y,Y=q.permits kind who num:=⟨_,rfl⟩;have hYe:Y=if kind=1∨kind=2∨kind=3∨kind=7 then decide (0≤who∧who<q.n) else if kind=4∨kind=5∨kind=6 then decide (0≤num∧num<q.net.length) else false:=by rw [hY];rfl
 rw [←hY];obtain ⟨ek,ti,te,ce,ot,ep,fr,un,nn⟩:=e;simp only [eU] at hW0;unfold gZ;generalize q.net.length=L at*;generalize q.n=N at*;have agf:=hhas W0 hf0;clear h h1 h2 h3 h4 hP hY hhas hb0;have hf0:=O hf0
 by_cases hk:kind=1∨kind=2∨kind=3∨kind=7
 ·rw [if_pos hk] at hYe
  rw [←hYe] at agf;clear hYe;obtain ⟨ao8,HW0,HG⟩:=bP agf hW0 hg;clear agf hW0 hg
  rcases hk with rfl|rfl|rfl|rfl
  all_goals
   go_in
   go_upto_region 1 with fail
   rw [←HW0.out,←HG.out]
   go_wp2_with fail
   refine ao8.out.mono ?_;rintro x w1 ⟨rfl,rfl⟩
   go_wp2_with fail
   go_ret
   exact ⟨rfl,hf0.out⟩
 ·rw [if_neg hk] at hYe
  clear agf
  by_cases hk2:kind=4∨kind=5∨kind=6
  ·rw [if_pos hk2] at hYe
   clear hk
   by_cases n0:0≤num
   ·by_cases n1:num<L
    ·have t0:decide (0≤num)=true:=by simpa using n0
     have t1:decide (num<(L:Int))=true:=by simpa using n1
     obtain rfl:Y=true:=by rw [hYe];simp;omega
     clear hYe;obtain ⟨HW0,HG⟩:=aO hW0 hg;clear hW0 hg
     rcases hk2 with rfl|rfl|rfl
     all_goals
      go_in
      go_upto_region 1 with fail
      rw [←HW0.out,←HG.out]
      go_wp2_with fail
      go_quiet (fail)
      go_wp2_with fail
      go_ret
      exact ⟨rfl,hf0.out.drewN _⟩
    ·have t0:decide (0≤num)=true:=by simpa using n0
     have t1:decide (num<(L:Int))=false:=by simpa using n1
     obtain rfl:Y=false:=by rw [hYe];simp;omega
     clear hYe;obtain ⟨HW0,HG⟩:=aO hW0 hg;clear hW0 hg
     rcases hk2 with rfl|rfl|rfl
     all_goals
      go_in
      go_upto_region 1 with fail
      rw [←HW0.out,←HG.out]
      go_wp2_with fail
      go_quiet (fail)
      go_wp2_with fail
      go_ret
      exact ⟨rfl,hf0.out.drewN _⟩
   ·have t0:decide (0≤num)=false:=by simpa using n0
    obtain rfl:Y=false:=by rw [hYe];simp;omega
    clear hYe;obtain ⟨HW0,HG⟩:=aO hW0 hg;clear hW0 hg
    rcases hk2 with rfl|rfl|rfl
    all_goals
     go_in
     go_upto_region 1 with fail
     rw [←HW0.out,←HG.out]
     go_wp2_with fail
     go_quiet (fail)
     go_wp2_with fail
     go_ret
     exact ⟨rfl,hf0.out.drewN _⟩
  ·rw [if_neg hk2] at hYe
   obtain ⟨k1,k2,k3,k7⟩:kind≠1∧kind≠2∧kind≠3∧kind≠7:=by omega
   obtain ⟨k4,k5,k6⟩:kind≠4∧kind≠5∧kind≠6:=by omega
   clear hk hk2;subst hYe;obtain ⟨HW0,HG⟩:=aO hW0 hg;clear hW0 hg
   go_in
   go_upto_region 1 with fail
   rw [←HW0.out,←HG.out]
   go_wp2_with fail
   go_ret
   exact ⟨rfl,hf0.out⟩
end
end
section
theorem sP (i n:Nat):(others i n).length≤n:=by
 unfold others;exact Nat.le_trans (List.length_filter_le _ _) (by simp)
theorem bU.pJ {r:Rs}(h:bU r):r.gF.length≤5:=by
 unfold Rs.gF;rw [List.length_map];exact Nat.le_trans (sP _ _) h.five
theorem bU.oM {r:Rs}(h:bU r):r.aJ.2.length≤5:=by
 unfold Rs.aJ
 split
 ·simp
 ·split
  ·simp
  ·simp only [List.length_map]
   exact Nat.le_trans (sP _ _) h.five
theorem bU.qj {r:Rs}(h:bU r)(e:En)(he:e.ok):(r.propose e).2.length≤5:=by
 unfold Rs.propose
 split
 ·exact (h.proposed e he).pJ
 ·simp
theorem bU.zH {r:Rs}(h:bU r):r.nD.length≤5:=by
 unfold Rs.nD
 split
 ·simp
 ·exact h.pJ
theorem bU.abo {r:Rs}(h:bU r){m:Ms}(hm:bH r m):(r.takes m).2.length≤5:=by
 unfold Rs.takes
 split
 ·simp [Rs.dK]
 ·split
  ·unfold Rs.bW
   split
   ·simp
   ·split
    ·simp
    ·exact (h.zO hm).lead.pJ
  ·split
   ·unfold Rs.aK
    split
    ·simp [Rs.answer]
    ·split
     ·simp
     ·split
      ·simp [Rs.answer]
      ·split
       ·split
        ·simp
        ·simp [Rs.answer]
       ·simp [Rs.answer]
   ·unfold Rs.aR
    split
    ·simp
    ·split
     ·simp
     ·split<;>simp
theorem bU.kX {r:Rs}(h:bU r){m:Ms}:(r.handle m).2.length≤5:=by
 unfold Rs.handle
 split
 ·simp
 ·rename_i hp
  have hm:bH r m:=Rs.cB.1 (by simpa using hp);exact (h.meets m.term hm.t1).abo (hm.kQ m.term)
section
variable {w w' :World}{lab lab' :Nat→Option Nat}{z n m:Nat}{pv:Nat→Nat}{q q1:Qs}{F:Nat→Prop}
theorem lU.to {l:List Ms}(h:lU w lab z pv q n l l.length w'):QTo w lab z pv {q with net:=sendAll q.net l} n w' :=by
 obtain ⟨lab',h1,h2,h3,h4,-⟩:=h;rw [List.take_length] at h1;exact ⟨lab',h1,h2,h4.mono fun b hb=>by rcases hb with hb|hb<;>rw [hb]<;>simp⟩
theorem lV.to (h:lV w lab z pv q n q.n w'):QTo w lab z pv q.note n w' :=by
 obtain ⟨lab',h1,h2,h3,h4⟩:=h;exact ⟨lab',h1,h2,h4.mono fun b hb=>by rw [hb];simp⟩
theorem QTo.from {w1:World}{aZ:Nat→Option Nat}(h:QTo w1 aZ z pv q n w')(ha:∀b,b<w.heap.size→aZ b=lab b)(hf:Fr (fun b=>lab b≠none) w w1):QTo w lab z pv q n w' :=by
 obtain ⟨dG,a2,b2,c2⟩:=h;refine ⟨dG,a2,fun b hb=>(b2 b (nll hb hf.size)).trans (ha b hb),hf.trans c2 fun b hb=> ?_⟩
 rcases Nat.lt_or_ge b w.heap.size with hl|hl
 ·rw [ha b hl] at hb
  exact .inl hb
 ·exact .inr hl
def Keeps (w:World)(lab:Nat→Option Nat)(z:Nat)(W:World):Prop:=
 (∀p:Addr,p.block<w.heap.size→(lab p.block=none∨lab p.block=some 1)→W.cell? p=w.cell? p)∧W.cell? ⟨z,0,none⟩=w.cell? ⟨z,0,none⟩
theorem QAt.xD (h:QAt w lab z pv q n):∃br cr,q.n≤cr∧cr≤maxLen∧lab br=some 1∧br<w.heap.size∧w.cell? ⟨z,0,none⟩=some (.slice (some ⟨br,0,none⟩) q.n cr)∧∀i,i<q.n→w.cell? ⟨br,i,none⟩=some (.pointer (some ⟨pv i,0,none⟩)):=by
 obtain ⟨Ar,cr,NV,DV,vs,h1,h2,h3,h4⟩:=h.mem;have hp:=h.ok.pos;have hc:=h2.cap;obtain ⟨br,rfl,hbl,hb1,hb⟩:=iV h2 hp;refine ⟨br,cr,hc.1,hc.2,hb1,hbl,h1.cell 0,fun i hi=> ?_⟩;rw [(hb i (by simpa using hi)).1]
 simp
theorem QAt.keeps (h:QAt w lab z pv q n){i:Nat}(hf:Fr (part lab (10+i)) w w'):Keeps w lab z w' :=by
 refine ⟨fun p hp hl=>hf.cell hp fun (hh:lab p.block=some (10+i))=> ?_,hf.cell (p:=⟨z,0,none⟩) (h.lt z 0 h.z0) (aG (show (0:Nat)≠10+i by omega) z h.z0)⟩;rw [hh] at hl
 rcases hl with hl|hl
 ·cases hl
 ·injection hl with hl
  omega
theorem QAt.sent (h:QAt w lab z pv q n){i:Nat}(hi:i<q.n){x:Rs×List Ms}{e:Ending}(hnm:n≤m)(hc:aQ w (part lab (10+i)) (pv i) x m e w')(h1:x.1.id=(q.rs i).id)(h2:x.1.n=(q.rs i).n)(hto:∀y∈x.2,fI q.n y)(hl:x.2.length≤5):
  ∃A c,e= .returned (.slice A x.2.length c)∧Keeps w lab z w'∧Calls Tryz.prog 62 #[.pointer (some ⟨z,0,none⟩),.slice A x.2.length c] w' fun e2 w2=>e2= .returned (.tuple #[])∧Keeps w lab z w2∧QTo w lab z pv (q.put i x) m w2:=by
 obtain ⟨A,c,lab',Gs,vs,e1,a1,a2,a3,a4,a5⟩:=h.turned hi hnm hc h1 h2;have hk:=h.keeps a5;refine ⟨A,c,e1,hk,(akq a1 a2 a3 hto oy).mono ?_⟩;rintro e2 w2 ⟨rfl,s⟩;refine ⟨rfl,⟨fun p hp hl=> ?_,?_⟩,?_⟩
 ·obtain ⟨-,-,-,-,s4,-⟩:=s
  rw [s4.cell (nll hp a5.size) (fun hh=> ?_),hk.1 p hp hl];rw [a4 _ hp] at hh
  rcases hl with hl|hl<;>rw [hl] at hh<;>simp at hh
 ·obtain ⟨-,-,-,-,-,s5⟩:=s
  exact s5.trans hk.2
 ·have:=s.to
  exact this.from a4 (a5.mono fun b hb=>by
   have hb:lab b=some (10+i):=hb;rw [hb];simp)
theorem QTo.noted (h:QTo w lab z pv q n w'):Calls Tryz.prog 64 #[.pointer (some ⟨z,0,none⟩)] w' fun e2 w2=>e2= .returned (.tuple #[])∧QTo w lab z pv q.note n w2:=by
 obtain ⟨lab',h1,h2,h3⟩:=h;refine (akr h1).mono ?_;rintro e2 w2 ⟨rfl,s⟩;exact ⟨rfl,s.to.from h2 h3⟩
end
end
section
section
variable {w w' :World}{lab lab' :Nat→Option Nat}{z n m:Nat}{pv:Nat→Nat}{q q1:Qs}{F:Nat→Prop}
def uU (w:World)(lab:Nat→Option Nat)(z:Nat)(pv:Nat→Nat)(q:Qs)(n:Nat)(kind who num:Int)(e:En)(x:Ending)(w' :World):Prop:=
 x= .returned (.int .i64 (q.jh kind who num e))∧QTo w lab z pv (q.act kind who num e) (n+700000) w'
def rQ (r:Rs):Rs×List Ms:=(r,r.nD)
theorem aio {p:Nat}{r:Rs}(h:RAt w F p r n):Calls Tryz.prog 44 #[.pointer (some ⟨p,0,none⟩)] w (aQ w F p (rQ r) n):=
 (ahf h).mono fun _ _ k=>aQ.mk' (h.still (Fr.refl _ _)) k
theorem uN (r:Rs):(rQ r).1.id=r.id∧(rQ r).1.n=r.n:=⟨rfl,rfl⟩
set_option maxHeartbeats 8000000 in
theorem aky (h:QAt w lab z pv q n)(i:Nat)(hi:i<q.n)(num:Int)(e:En)(hsz:n+800000≤140737488355328):Calls Tryz.prog 26 #[.pointer (some ⟨z,0,none⟩),gZ 1 i num e] w (uU w lab z pv q n 1 i num e):=by
 have hpm:q.permits 1 (i:Int) num=true:=by unfold Qs.permits;simp;omega
 have hX:q.jh 1 (i:Int) num e=0:=by unfold Qs.jh;simp [hpm]
 have hA:q.act 1 (i:Int) num e=(q.put i ((q.rs i).aJ)).note:=by unfold Qs.act;simp [hX]<;>rfl
 obtain ⟨W0,hW0⟩:∃W0,W0=w.alloc (.cells (eU 1 (i:Int) num e).toArray fE):=⟨_,rfl⟩;have hf0:Fr No w W0:=by rw [hW0];exact aj _ _
 obtain ⟨g,hg⟩:∃g,g=w.heap.size:=⟨_,rfl⟩;have hb0:Blk W0 g fE (eU 1 (i:Int) num e).toArray:=by rw [hg,hW0];exact Blk.new _ _ _
 have jE:=eF (h.ak hf0) 1 (i:Int) num e;rw [hpm] at jE;have hac:=fun W (hf:Fr No W0 W)=>aM (hb0.fr hf id);obtain ⟨br,cr,hnc,hcm,hb1,hbl,r0,r1⟩:=h.xD;have hzw:=h.lt z 0 h.z0;have hgn:lab g=none:=by
  cases hlg:lab g with
  |none=>rfl
  |some j=>exact absurd (h.lt g j hlg) oy
 have hks:=fun W V (hf:Fr No W0 W) (hk:Keeps W lab z V)=>(⟨hk.2.trans (((hf0.ah hf).cell (p:=⟨z,0,none⟩) hzw fun h=>h).trans r0),(hk.1 ⟨g,1,none⟩ (nll hb0.lt hf.size) (.inl hgn)).trans ((hb0.fr hf fun h=>h).cell 1),(hk.1 ⟨br,i,none⟩ (nll hbl (hf0.ah hf).size) (.inr hb1)).trans (((hf0.ah hf).cell (p:=⟨br,i,none⟩) hbl fun h=>h).trans (r1 i hi))⟩:V.cell? ⟨z,0,none⟩=some (.slice (some ⟨br,0,none⟩) q.n cr)∧V.cell? ⟨g,1,none⟩=some (.int .i64 i)∧V.cell? ⟨br,i,none⟩=some (.pointer (some ⟨pv i,0,none⟩)));have h5:=h.ok.five;obtain ⟨o1,o2,o3⟩:=h.ok.each i hi;have hcall:=fun W (hf:Fr No w W)=>kN ((h.ak hf).jN i hi) oy;have fC:=fun W W' x (hf:Fr No w W) hc=>(h.ak hf).sent (m:=n+48) hi (x:=((q.rs i).aJ)) (e:=x) (w' :=W') oy hc (jm _).1 (jm _).2 (by have:=o1.mE;rw [o3] at this;exact this) o1.oM;have hend:=fun W W' (hf:Fr No w W) (hq:QTo W lab z pv (q.put i ((q.rs i).aJ)).note (n+48) W')=>QTo.after (n:=n+700000) hf h.lt (hq.more oy);have hi2:(i:Int)<(q.n:Int):=by omega
 have hzl:z<W0.heap.size:=nll (h.lt z 0 h.z0) hf0.size;obtain ⟨c0,c1,c2,c3,c4,c5,c6,c7,c8,c9,c10,c11⟩:=hac W0 (Fr.refl _ _);have hgl:=hb0.lt;unfold maxLen at hcm;unfold uU;rw [hX,hA];have FF:=O hf0;obtain ⟨ek,ti,te,ce,ot,ep,fr,un,nn⟩:=e;simp only [eU] at hW0;simp only at c3 c4 c5 c6 c7 c8 c9 c10 c11;unfold gZ at jE ⊢;clear h hpm hX hA hb0 hf0 o1 o2 o3;obtain ⟨ru,HAC,HKS,dL,gq,dZ,HW0,HG⟩:=ae6 jE hac hks hcall fC hend hW0 hg;clear jE hac hks hcall fC hend hW0 hg
 go_in
 go_upto_region 1 with fail
 rw [←HW0.out,←HG.out]
 go_wp2_with fail
 refine ru.out.mono ?_;rintro e w1 ⟨rfl,f1⟩;obtain ⟨d0,d1,d2,-⟩:=HAC.out w1 f1;have F1:=O (FF.out.ah f1).drew;have hd:=HKS.out w1.drew w1.drew f1.drew ⟨fun _ _ _=>rfl,rfl⟩;have HKT:=O fun V (hk:Keeps w1.drew lab z V)=>HKS.out w1.drew V f1.drew hk;have hz1:z<w1.heap.size:=nll hzl f1.size;have hg1:g<w1.heap.size:=nll hgl f1.size;have mq:=O (dL.out _ F1.out);have ny:=O fun W' x=>gq.out _ W' x F1.out;clear c0 c1 c2 c3 c4 c5 c6 c7 c8 c9 c10 c11 f1 HKS HAC dL gq ru r0 r1
 go_wp2_with fail
 go_region_held3 (fun V=>V.cell? ⟨z,0,none⟩=some (.slice (some ⟨br,0,none⟩) q.n cr)∧V.cell? ⟨g,1,none⟩=some (.int .i64 i)∧V.cell? ⟨br,i,none⟩=some (.pointer (some ⟨pv i,0,none⟩))) (first|exact hd|exact k1|exact k2) (first
  |(go_at_call 33;refine mq.out.mono ?_;rintro e v1 hc;obtain ⟨A1,c1',rfl,k1',hs⟩:=ny.out _ _ hc;have k1:=HKT.out _ k1';have HS2:=O hs;clear hc k1' hs)
  |(go_at_call 62;refine HS2.out.mono ?_;rintro e v2 ⟨rfl,k2',q2⟩;have k2:=HKT.out _ k2';have Q2:=O q2;clear k2' q2))
 have dP:=O (QTo.noted Q2.out);clear hd HKT d0 d1 d2 k2 mq ny HS2
 go_wp2_with fail
 refine dP.out.mono ?_;rintro e v3 ⟨rfl,q3⟩;have Q3:=O (dZ.out _ _ F1.out q3);clear q3 dP dZ Q2
 go_wp2_with fail
 go_ret
 exact ⟨rfl,Q3.out⟩
set_option maxHeartbeats 8000000 in
theorem akw (h:QAt w lab z pv q n)(i:Nat)(hi:i<q.n)(num:Int)(e:En)(hsz:n+800000≤140737488355328):Calls Tryz.prog 26 #[.pointer (some ⟨z,0,none⟩),gZ 3 i num e] w (uU w lab z pv q n 3 i num e):=by
 have hpm:q.permits 3 (i:Int) num=true:=by unfold Qs.permits;simp;omega
 have hX:q.jh 3 (i:Int) num e=0:=by unfold Qs.jh;simp [hpm]
 have hA:q.act 3 (i:Int) num e=(q.put i (rQ (q.rs i))).note:=by unfold Qs.act;simp [hX]<;>rfl
 obtain ⟨W0,hW0⟩:∃W0,W0=w.alloc (.cells (eU 3 (i:Int) num e).toArray fE):=⟨_,rfl⟩;have hf0:Fr No w W0:=by rw [hW0];exact aj _ _
 obtain ⟨g,hg⟩:∃g,g=w.heap.size:=⟨_,rfl⟩;have hb0:Blk W0 g fE (eU 3 (i:Int) num e).toArray:=by rw [hg,hW0];exact Blk.new _ _ _
 have jE:=eF (h.ak hf0) 3 (i:Int) num e;rw [hpm] at jE;have hac:=fun W (hf:Fr No W0 W)=>aM (hb0.fr hf id);obtain ⟨br,cr,hnc,hcm,hb1,hbl,r0,r1⟩:=h.xD;have hzw:=h.lt z 0 h.z0;have hgn:lab g=none:=by
  cases hlg:lab g with
  |none=>rfl
  |some j=>exact absurd (h.lt g j hlg) oy
 have hks:=fun W V (hf:Fr No W0 W) (hk:Keeps W lab z V)=>(⟨hk.2.trans (((hf0.ah hf).cell (p:=⟨z,0,none⟩) hzw fun h=>h).trans r0),(hk.1 ⟨g,1,none⟩ (nll hb0.lt hf.size) (.inl hgn)).trans ((hb0.fr hf fun h=>h).cell 1),(hk.1 ⟨br,i,none⟩ (nll hbl (hf0.ah hf).size) (.inr hb1)).trans (((hf0.ah hf).cell (p:=⟨br,i,none⟩) hbl fun h=>h).trans (r1 i hi))⟩:V.cell? ⟨z,0,none⟩=some (.slice (some ⟨br,0,none⟩) q.n cr)∧V.cell? ⟨g,1,none⟩=some (.int .i64 i)∧V.cell? ⟨br,i,none⟩=some (.pointer (some ⟨pv i,0,none⟩)));have h5:=h.ok.five;obtain ⟨o1,o2,o3⟩:=h.ok.each i hi;have hcall:=fun W (hf:Fr No w W)=>aio ((h.ak hf).jN i hi);have fC:=fun W W' x (hf:Fr No w W) hc=>(h.ak hf).sent (m:=n) hi (x:=(rQ (q.rs i))) (e:=x) (w' :=W') oy hc (uN _).1 (uN _).2 (by have:=o1.yu;rw [o3] at this;exact this) o1.zH;have hend:=fun W W' (hf:Fr No w W) (hq:QTo W lab z pv (q.put i (rQ (q.rs i))).note (n) W')=>QTo.after (n:=n+700000) hf h.lt (hq.more oy);have hi2:(i:Int)<(q.n:Int):=by omega
 have hzl:z<W0.heap.size:=nll (h.lt z 0 h.z0) hf0.size;obtain ⟨c0,c1,c2,c3,c4,c5,c6,c7,c8,c9,c10,c11⟩:=hac W0 (Fr.refl _ _);have hgl:=hb0.lt;unfold maxLen at hcm;unfold uU;rw [hX,hA];have FF:=O hf0;obtain ⟨ek,ti,te,ce,ot,ep,fr,un,nn⟩:=e;simp only [eU] at hW0;simp only at c3 c4 c5 c6 c7 c8 c9 c10 c11;unfold gZ at jE ⊢;clear h hpm hX hA hb0 hf0 o1 o2 o3;obtain ⟨ru,HAC,HKS,dL,gq,dZ,HW0,HG⟩:=ae6 jE hac hks hcall fC hend hW0 hg;clear jE hac hks hcall fC hend hW0 hg
 go_in
 go_upto_region 1 with fail
 rw [←HW0.out,←HG.out]
 go_wp2_with fail
 refine ru.out.mono ?_;rintro e w1 ⟨rfl,f1⟩;obtain ⟨d0,d1,d2,-⟩:=HAC.out w1 f1;have F1:=O (FF.out.ah f1).drew;have hd:=HKS.out w1.drew w1.drew f1.drew ⟨fun _ _ _=>rfl,rfl⟩;have HKT:=O fun V (hk:Keeps w1.drew lab z V)=>HKS.out w1.drew V f1.drew hk;have hz1:z<w1.heap.size:=nll hzl f1.size;have hg1:g<w1.heap.size:=nll hgl f1.size;have mq:=O (dL.out _ F1.out);have ny:=O fun W' x=>gq.out _ W' x F1.out;clear c0 c1 c2 c3 c4 c5 c6 c7 c8 c9 c10 c11 f1 HKS HAC dL gq ru r0 r1
 go_wp2_with fail
 go_region_held3 (fun V=>V.cell? ⟨z,0,none⟩=some (.slice (some ⟨br,0,none⟩) q.n cr)∧V.cell? ⟨g,1,none⟩=some (.int .i64 i)∧V.cell? ⟨br,i,none⟩=some (.pointer (some ⟨pv i,0,none⟩))) (first|exact hd|exact k1|exact k2) (first
  |(go_at_call 44;refine mq.out.mono ?_;rintro e v1 hc;obtain ⟨A1,c1',rfl,k1',hs⟩:=ny.out _ _ hc;have k1:=HKT.out _ k1';have HS2:=O hs;clear hc k1' hs)
  |(go_at_call 62;refine HS2.out.mono ?_;rintro e v2 ⟨rfl,k2',q2⟩;have k2:=HKT.out _ k2';have Q2:=O q2;clear k2' q2))
 have dP:=O (QTo.noted Q2.out);clear hd HKT d0 d1 d2 k2 mq ny HS2
 go_wp2_with fail
 refine dP.out.mono ?_;rintro e v3 ⟨rfl,q3⟩;have Q3:=O (dZ.out _ _ F1.out q3);clear q3 dP dZ Q2
 go_wp2_with fail
 go_ret
 exact ⟨rfl,Q3.out⟩
theorem QAt.crashed (h:QAt w lab z pv q n){i:Nat}(hi:i<q.n){r:Rs}(hr:RTo w (part lab (10+i)) (pv i) r n w')(h1:r.id=(q.rs i).id)(h2:r.n=(q.rs i).n):QTo w lab z pv (q.put i (r,[])) n w'∧Keeps w lab z w' :=by
 obtain ⟨A,c,lab',Gs,vs,-,a2,-,-,a5,a6⟩:=h.turned hi (Nat.le_refl _) (aQ.mk' hr (fF.none_ w')) h1 h2;exact ⟨⟨lab',a2,a5,a6.mono fun b hb=>by
  have hb:lab b=some (10+i):=hb;rw [hb];simp⟩,h.keeps a6⟩
set_option maxHeartbeats 8000000 in
theorem aks (h:QAt w lab z pv q n)(i:Nat)(hi:i<q.n)(num:Int)(e:En):Calls Tryz.prog 26 #[.pointer (some ⟨z,0,none⟩),gZ 7 i num e] w (uU w lab z pv q n 7 i num e):=by
 have hpm:q.permits 7 (i:Int) num=true:=by unfold Qs.permits;simp;omega
 have hX:q.jh 7 (i:Int) num e=0:=by unfold Qs.jh;simp [hpm]
 have hA:q.act 7 (i:Int) num e=(q.put i ((q.rs i).crash,[])).note:=by unfold Qs.act;simp [hX]
 obtain ⟨W0,hW0⟩:∃W0,W0=w.alloc (.cells (eU 7 (i:Int) num e).toArray fE):=⟨_,rfl⟩;have hf0:Fr No w W0:=by rw [hW0];exact aj _ _
 obtain ⟨g,hg⟩:∃g,g=w.heap.size:=⟨_,rfl⟩;have hb0:Blk W0 g fE (eU 7 (i:Int) num e).toArray:=by rw [hg,hW0];exact Blk.new _ _ _
 have jE:=eF (h.ak hf0) 7 (i:Int) num e;rw [hpm] at jE;have hac:=fun W (hf:Fr No W0 W)=>aM (hb0.fr hf id);obtain ⟨br,cr,hnc,hcm,hb1,hbl,r0,r1⟩:=h.xD;have hzw:=h.lt z 0 h.z0;have hgn:lab g=none:=by
  cases hlg:lab g with
  |none=>rfl
  |some j=>exact absurd (h.lt g j hlg) oy
 have hks:=fun W V (hf:Fr No W0 W) (hk:Keeps W lab z V)=>(⟨hk.2.trans (((hf0.ah hf).cell (p:=⟨z,0,none⟩) hzw fun h=>h).trans r0),(hk.1 ⟨g,1,none⟩ (nll hb0.lt hf.size) (.inl hgn)).trans ((hb0.fr hf fun h=>h).cell 1),(hk.1 ⟨g,2,none⟩ (nll hb0.lt hf.size) (.inl hgn)).trans ((hb0.fr hf fun h=>h).cell 2),(hk.1 ⟨br,i,none⟩ (nll hbl (hf0.ah hf).size) (.inr hb1)).trans (((hf0.ah hf).cell (p:=⟨br,i,none⟩) hbl fun h=>h).trans (r1 i hi))⟩:V.cell? ⟨z,0,none⟩=some (.slice (some ⟨br,0,none⟩) q.n cr)∧V.cell? ⟨g,1,none⟩=some (.int .i64 i)∧V.cell? ⟨g,2,none⟩=some (.int .i64 num)∧V.cell? ⟨br,i,none⟩=some (.pointer (some ⟨pv i,0,none⟩)));have h5:=h.ok.five;have hcall:=fun W (hf:Fr No w W)=>ac5 ((h.ak hf).jN i hi) num;have hdone:=fun W W' (hf:Fr No w W) (hr:RTo W (part lab (10+i)) (pv i) (q.rs i).crash n W')=>(h.ak hf).crashed hi hr rfl rfl;have hend:=fun W W' (hf:Fr No w W) (hq:QTo W lab z pv (q.put i ((q.rs i).crash,[])).note n W')=>QTo.after (n:=n+700000) hf h.lt (hq.more oy);have hi2:(i:Int)<(q.n:Int):=by omega
 have hzl:z<W0.heap.size:=nll (h.lt z 0 h.z0) hf0.size;obtain ⟨c0,c1,c2,c3,c4,c5,c6,c7,c8,c9,c10,c11⟩:=hac W0 (Fr.refl _ _);have hgl:=hb0.lt;unfold maxLen at hcm;unfold uU;rw [hX,hA];have FF:=O hf0;obtain ⟨ek,ti,te,ce,ot,ep,fr,un,nn⟩:=e;simp only [eU] at hW0;simp only at c3 c4 c5 c6 c7 c8 c9 c10 c11;unfold gZ at jE ⊢;clear h hpm hX hA hb0 hf0;obtain ⟨ru,HAC,HKS,dL,rX,dZ,HW0,HG⟩:=ae6 jE hac hks hcall hdone hend hW0 hg;clear jE hac hks hcall hdone hend hW0 hg
 go_in
 go_upto_region 1 with fail
 rw [←HW0.out,←HG.out]
 go_wp2_with fail
 refine ru.out.mono ?_;rintro e w1 ⟨rfl,f1⟩;obtain ⟨d0,d1,d2,-⟩:=HAC.out w1 f1;have F1:=O (FF.out.ah f1).drew;have hd:=HKS.out w1.drew w1.drew f1.drew ⟨fun _ _ _=>rfl,rfl⟩;have HKT:=O fun V (hk:Keeps w1.drew lab z V)=>HKS.out w1.drew V f1.drew hk;have hz1:z<w1.heap.size:=nll hzl f1.size;have hg1:g<w1.heap.size:=nll hgl f1.size;have mq:=O (dL.out _ F1.out);have ny:=O fun W' =>rX.out _ W' F1.out;clear c0 c1 c2 c3 c4 c5 c6 c7 c8 c9 c10 c11 f1 HKS HAC dL rX ru r0 r1
 go_wp2_with fail
 go_region_held3 (fun V=>V.cell? ⟨z,0,none⟩=some (.slice (some ⟨br,0,none⟩) q.n cr)∧V.cell? ⟨g,1,none⟩=some (.int .i64 i)∧V.cell? ⟨g,2,none⟩=some (.int .i64 num)∧V.cell? ⟨br,i,none⟩=some (.pointer (some ⟨pv i,0,none⟩))) (first|exact hd|exact k1) (first
  |(go_at_call 46;refine mq.out.mono ?_;rintro e v1 ⟨rfl,hc⟩;obtain ⟨q2,k1'⟩:=ny.out _ hc;have k1:=HKT.out _ k1';have Q2:=O q2;clear hc k1' q2))
 have dP:=O (QTo.noted Q2.out);clear hd HKT d0 d1 d2 k1 mq ny
 go_wp2_with fail
 refine dP.out.mono ?_;rintro e v3 ⟨rfl,q3⟩;have Q3:=O (dZ.out _ _ F1.out q3);clear q3 dP dZ Q2
 go_wp2_with fail
 go_ret
 exact ⟨rfl,Q3.out⟩
set_option maxHeartbeats 8000000 in
theorem akt (h:QAt w lab z pv q n)(who:Int)(i:Nat)(hi:i<q.net.length)(e:En):Calls Tryz.prog 26 #[.pointer (some ⟨z,0,none⟩),gZ 6 who i e] w (uU w lab z pv q n 6 who i e):=by
 have hpm:q.permits 6 who (i:Int)=true:=by unfold Qs.permits;simp;omega
 have hX:q.jh 6 who (i:Int) e=0:=by unfold Qs.jh;simp [hpm]
 have hA:q.act 6 who (i:Int) e=(q.remove i).note:=by unfold Qs.act;simp [hX]
 obtain ⟨W0,hW0⟩:∃W0,W0=w.alloc (.cells (eU 6 who (i:Int) e).toArray fE):=⟨_,rfl⟩;have hf0:Fr No w W0:=by rw [hW0];exact aj _ _
 obtain ⟨g,hg⟩:∃g,g=w.heap.size:=⟨_,rfl⟩;have hb0:Blk W0 g fE (eU 6 who (i:Int) e).toArray:=by rw [hg,hW0];exact Blk.new _ _ _
 have jE:=eF (h.ak hf0) 6 who (i:Int) e;rw [hpm] at jE;have hac:=fun W (hf:Fr No W0 W)=>aM (hb0.fr hf id);have hcall:=fun W (hf:Fr No w W)=>pq (h.ak hf) i hi;have hdone:=fun W W' (hf:Fr No w W) (hq:QAt W' lab z pv (q.remove i) n) (hr:Fr (fun b=>lab b=some 0∨lab b=some 2) W W')=>(⟨lab,hq,fun _ _=>rfl,hr.mono fun b hb=>by rcases hb with hb|hb<;>rw [hb]<;>simp⟩:QTo W lab z pv (q.remove i) n W');have hend:=fun W W' (hf:Fr No w W) (hq:QTo W lab z pv (q.remove i).note n W')=>QTo.after (n:=n+700000) hf h.lt (hq.more oy);have hzl:z<W0.heap.size:=nll (h.lt z 0 h.z0) hf0.size;obtain ⟨c0,c1,c2,c3,c4,c5,c6,c7,c8,c9,c10,c11⟩:=hac W0 (Fr.refl _ _);have hgl:=hb0.lt;unfold uU;rw [hX,hA];have FF:=O hf0;obtain ⟨ek,ti,te,ce,ot,ep,fr,un,nn⟩:=e;simp only [eU] at hW0;simp only at c3 c4 c5 c6 c7 c8 c9 c10 c11;unfold gZ at jE ⊢;clear h hpm hX hA hb0 hf0;obtain ⟨ru,HAC,dL,rX,dZ,HW0,HG⟩:=nC jE hac hcall hdone hend hW0 hg;clear jE hac hcall hdone hend hW0 hg
 go_in
 go_upto_region 1 with fail
 rw [←HW0.out,←HG.out]
 go_wp2_with fail
 refine ru.out.mono ?_;rintro e w1 ⟨rfl,f1⟩;obtain ⟨d0,d1,d2,-⟩:=HAC.out w1 f1;have F1:=O (FF.out.ah f1);have hg1:g<w1.heap.size:=nll hgl f1.size;have mq:=O (dL.out _ F1.out);clear c0 c1 c2 c3 c4 c5 c6 c7 c8 c9 c10 c11 f1 HAC dL ru
 go_wp2_with fail
 refine mq.out.mono ?_;rintro e v2 ⟨rfl,q1,f2⟩;have Q2:=O (rX.out _ _ F1.out q1 f2);have dP:=O (QTo.noted Q2.out);clear d0 d1 d2 mq q1 f2 rX
 go_wp2_with fail
 refine dP.out.mono ?_;rintro e v3 ⟨rfl,q3⟩;have Q3:=O (dZ.out _ _ F1.out q3);clear q3 dP dZ Q2
 go_wp2_with fail
 go_ret
 exact ⟨rfl,Q3.out⟩
set_option maxHeartbeats 8000000 in
theorem ail (h:QAt w lab z pv q n)(kind who num:Int)(e:En)(hpm:q.permits kind who num=false):Calls Tryz.prog 26 #[.pointer (some ⟨z,0,none⟩),gZ kind who num e] w (uU w lab z pv q n kind who num e):=by
 have hX:q.jh kind who num e=1:=by unfold Qs.jh;simp [hpm]
 have hA:q.act kind who num e=q:=by unfold Qs.act;simp [hX]
 obtain ⟨W0,hW0⟩:∃W0,W0=w.alloc (.cells (eU kind who num e).toArray fE):=⟨_,rfl⟩;have hf0:Fr No w W0:=by rw [hW0];exact aj _ _
 obtain ⟨g,hg⟩:∃g,g=w.heap.size:=⟨_,rfl⟩;have hb0:Blk W0 g fE (eU kind who num e).toArray:=by rw [hg,hW0];exact Blk.new _ _ _
 have jE:=eF (h.ak hf0) kind who num e;rw [hpm] at jE;have hac:=fun W (hf:Fr No W0 W)=>aM (hb0.fr hf id);have hend:=fun W' (hf:Fr No w W')=>((h.more (m:=n+700000) oy).still hf);obtain ⟨c0,c1,c2,c3,c4,c5,c6,c7,c8,c9,c10,c11⟩:=hac W0 (Fr.refl _ _);have hgl:=hb0.lt;unfold uU;rw [hX,hA];have FF:=O hf0;obtain ⟨ek,ti,te,ce,ot,ep,fr,un,nn⟩:=e;simp only [eU] at hW0;simp only at c3 c4 c5 c6 c7 c8 c9 c10 c11;unfold gZ at jE ⊢;clear h hpm hX hA hb0 hf0 hac;obtain ⟨ru,dZ,HW0,HG⟩:=fK jE hend hW0 hg;clear jE hend hW0 hg
 go_in
 go_upto_region 1 with fail
 rw [←HW0.out,←HG.out]
 go_wp2_with fail
 refine ru.out.mono ?_;rintro e w1 ⟨rfl,f1⟩;have Q3:=O (dZ.out _ (FF.out.ah f1));clear c0 c1 c2 c3 c4 c5 c6 c7 c8 c9 c10 c11 f1 ru dZ
 go_wp2_with fail
 go_ret
 exact ⟨rfl,Q3.out⟩
end
end
end Go.Proofs.YtjnfmfmglehmbaaGreat
