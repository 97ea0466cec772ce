/-
  The program's quorum: its readers.
-/
import Derived.Test.YtodkhcbjpodgeaaGreatG27
import Derived.Test.YtodkhcbjpodgeaaGreatG32
namespace Go.Proofs.YtodkhcbjpodgeaaGreat
open Go.ChangeShapes Go.WideShapes Go.ChangeAt Go.RowKit
set_option linter.unusedVariables false
set_option maxRecDepth 100000
set_option maxHeartbeats 4000000
section
section
variable {w w' :World}{lab lab' :Nat→Option Nat}{z n m:Nat}{pv:Nat→Nat}{q:Qs}{F:Nat→Prop}
theorem QAt.row (h:QAt w lab z pv q n):∃br cr,q.n≤cr∧cr≤maxLen∧∀W,Fr No w W→W.cell? ⟨z,0,none⟩=some (.slice (some ⟨br,0,none⟩) q.n cr)∧∀i,i<q.n→W.cell? ⟨br,i,none⟩=some (.pointer (some ⟨pv i,0,none⟩)):=by
 obtain ⟨Ar,cr,NV,DV,vs,h1,h2,h3,h4⟩:=h.mem;have hp:=h.ok.pos;have hc:=h2.cap;obtain ⟨br,rfl,hbl,-,hb⟩:=qc h2 hp;refine ⟨br,cr,hc.1,hc.2,fun W hf=>⟨(h1.fr hf id).cell 0,fun i hi=> ?_⟩⟩;have:=(hb i (by simpa using hi)).1;rw [hf.cell (p:=⟨br,i,none⟩) hbl id,this]
 simp
set_option maxHeartbeats 1000000 in
theorem aiq (h:QAt w lab z pv q n)(i:Int):Calls Tryz.prog 210 #[.pointer (some ⟨z,0,none⟩),.int .i64 i] w fun e w' =>e= .returned (.bool (decide (0≤i∧i<q.n)))∧w=w' :=by
 obtain ⟨br,cr,hnc,hcm,hr⟩:=h.row;have h5:=h.ok.five;obtain ⟨c0,-⟩:=hr w (Fr.refl _ _);generalize q.n=N at*;clear h hr;unfold maxLen at hcm
 by_cases h0:0≤i
 ·by_cases h1:i<N
  ·have t2:decide (i<(N:Int))=true:=by simpa using h1
   have hy:decide (0≤i∧i<(N:Int))=true:=by simp;omega
   rw [hy];clear hy
   go_in
   go_wp2_with fail
   go_ret
   exact ⟨rfl,rfl⟩
  ·have t2:decide (i<(N:Int))=false:=by simpa using h1
   have hy:decide (0≤i∧i<(N:Int))=false:=by simp;omega
   rw [hy];clear hy
   go_in
   go_wp2_with fail
   go_ret
   exact ⟨rfl,rfl⟩
 ·have t1:decide (0≤i)=false:=by simpa using h0
  have hy:decide (0≤i∧i<(N:Int))=false:=by simp;omega
  rw [hy];clear hy
  go_in
  go_wp2_with fail
  go_ret
  exact ⟨rfl,rfl⟩
set_option maxHeartbeats 1000000 in
theorem wI (h:QAt w lab z pv q n)(i:Nat)(hi:i<q.n):Calls Tryz.prog 153 #[.pointer (some ⟨z,0,none⟩),.int .i64 (i:Int)] w fun e w' =>e= .returned (.int .i64 (((q.rs i).commit:Int)))∧w=w' :=by
 have hh:=aiq h (i:Int);rw [show decide (0≤(i:Int)∧(i:Int)<(q.n:Int))=true from by simp;omega] at hh;have hc:=wK (h.zy i hi);obtain ⟨br,cr,hnc,hcm,hr⟩:=h.row;have h5:=h.ok.five;obtain ⟨c0,cr0⟩:=hr w (Fr.refl _ _);have ci:=cr0 i hi;have hi2:(i:Int)<(q.n:Int):=by omega
 unfold maxLen at hcm;generalize ((q.rs i).commit:Int)=X at*;clear h hr cr0;obtain ⟨HH,HC⟩:=aN hh hc;clear hh hc
 go_in
 go_wp2_with fail
 refine HH.out.mono ?_;rintro e w1 ⟨rfl,rfl⟩
 go_wp2_with fail
 refine HC.out.mono ?_;rintro e w1 ⟨rfl,rfl⟩
 go_wp2_with fail
 go_ret
 exact ⟨rfl,rfl⟩
set_option maxHeartbeats 1000000 in
theorem apt (h:QAt w lab z pv q n)(i:Nat)(hi:i<q.n):Calls Tryz.prog 212 #[.pointer (some ⟨z,0,none⟩),.int .i64 (i:Int)] w (xJ w (q.rs i).js.log):=by
 have hh:=aiq h (i:Int);rw [show decide (0≤(i:Int)∧(i:Int)<(q.n:Int))=true from by simp;omega] at hh;have hc:=alv (h.zy i hi).rj (h.zy i hi).ok.log.few;obtain ⟨br,cr,hnc,hcm,hr⟩:=h.row;have h5:=h.ok.five;obtain ⟨c0,cr0⟩:=hr w (Fr.refl _ _);have ci:=cr0 i hi;have hi2:(i:Int)<(q.n:Int):=by omega
 unfold maxLen at hcm;generalize (q.rs i).js.log=X at*;clear h hr cr0;obtain ⟨HH,HC⟩:=aN hh hc;clear hh hc
 go_in
 go_wp2_with fail
 refine HH.out.mono ?_;rintro e w1 ⟨rfl,rfl⟩
 go_wp2_with fail
 refine HC.out.mono ?_;rintro e w1 m1;have M:=O m1;obtain ⟨A,c,rfl,-⟩:=m1
 go_wp2_with fail
 go_ret
 exact M.out
end
end
section
abbrev TEq:TypeId:=105
theorem afy:(Tryz.prog.info? TEq).map (fun i=>(i.zero,i.size,i.bytes))=some (some (.agg #[.int .i64 0,.int .i64 0,.int .i64 0,.int .i64 0,.int .i64 0,.int .i64 0,.int .i64 0,.int .i64 0,.int .i64 0]),9,72):=by kernel_rfl
theorem aa3 (w:World)(cs:List Value)(t:TypeId):∀(j:Nat) (u:Value),cs[j]? =some u→(w.alloc (.cells cs.toArray t)).cell? ((⟨w.heap.size,0,none⟩:Addr).add j)=some u:=by
 intro j u hu;have ea:(⟨w.heap.size,0,none⟩:Addr).add j=⟨w.heap.size,0+j,none⟩:=by unfold Addr.add;split<;>simp_all
 rw [ea,Nat.zero_add,(Blk.new w t cs.toArray).cell]
 simpa using hu
section
variable {w w' :World}{lab lab' :Nat→Option Nat}{z n m:Nat}{pv:Nat→Nat}{q:Qs}{F:Nat→Prop}
theorem QAt.ail {Ar:Option Addr}{cr:Nat}{NV DV DV' :Value}{done' :List En}{vs:List Value}(h:QAt w lab z pv q n)(h1:Blk w z qK #[.slice Ar q.n cr,NV,DV])
  (h2:Own w (part lab 1) TPR (.slice Ar q.n cr) ((List.range q.n).map fun i=> .pointer (some ⟨pv i,0,none⟩))) (h3:iU w (part lab 2) (part lab 3) NV q.net vs)
  (hf:Fr (fun b=>lab b=some 0) w w') (ho:∀b,b<w.heap.size→lab' b=lab b) (hn:∀b k,w.heap.size≤b→lab' b=some k→k=4∧b<w'.heap.size)
  (hz:Blk w' z qK #[.slice Ar q.n cr,NV,DV']) (hm:aA w' (part lab' 4) TEq 9 DV' done'.length (lF done')) (hok:tF {q with done:=done'}):QAt w' lab' z pv {q with done:=done'} n:=by
 have hd:∀k,k≠0→∀b,part lab k b→¬lab b=some 0:=fun k k0 b hb hh=>bn k0 b hb hh;have hold:∀k b,lab b=some k→part lab' k b:=fun k b hb=>by
  show lab' b=some k
  rw [ho b (h.lt b k hb)];exact hb
 have hlt:∀b k,lab' b=some k→b<w'.heap.size:=fun b k hb=>by
  rcases Nat.lt_or_ge b w.heap.size with hl|hl
  ·exact nll hl hf.size
  ·exact (hn b k hl hb).2
 refine ⟨hlt,⟨Ar,cr,NV,DV',vs,hz,(h2.fr hf (hd 1 oy)).mono (hold 1),(h3.fr hf (hd 2 oy) (hd 3 oy)).same (hold 2) (hold 3) (bn oy) (fun b hb=>hlt b 2 hb) (fun b hb=>hlt b 3 hb),hm⟩,hold 0 z h.z0,fun i hi=> ?_,hok⟩;exact ((h.zy i hi).fr hf (hd (10+i) oy)).mono (hold (10+i)) (fun b hb=>hlt b _ hb)
def jD (w:World)(lab:Nat→Option Nat)(z:Nat)(pv:Nat→Nat)(q:Qs)(n:Nat)(k:Nat)(W:World):Prop:=
 ∃lab',QAt W lab' z pv {q with done:=r9 q.rs q.done k} n∧(∀b,b<w.heap.size→lab' b=lab b)∧(∀b j,w.heap.size≤b→lab' b=some j→j=4)∧Fr (fun b=>lab b=some 0) w W
theorem jD.next {cZ:Nat→Option Nat}{wr W:World}{k g c:Nat}{Q:Qs}{Ar:Option Addr}{cr:Nat}{NV DV:Value}{vs:List Value}{done' :List En}
  (hl1:∀b,b<w.heap.size→cZ b=lab b) (hl2:∀b j,w.heap.size≤b→cZ b=some j→j=4) (hfr:Fr (fun b=>lab b=some 0) w wr)
  (h:QAt wr cZ z pv Q n) (h1:Blk wr z qK #[.slice Ar Q.n cr,NV,DV])
  (h2:Own wr (part cZ 1) TPR (.slice Ar Q.n cr) ((List.range Q.n).map fun i=> .pointer (some ⟨pv i,0,none⟩))) (h3:iU wr (part cZ 2) (part cZ 3) NV Q.net vs)
  (hg:wr.heap.size≤g) (hf:Fr No wr W) (hm:W.ownsRow 0 TEq 9 (.slice (some ⟨g,0,none⟩) done'.length c) done'.length (lF done')) (hd:done'.length≤4096)
  (hnext:{Q with done:=done'}={q with done:=r9 q.rs q.done (k+1)}):jD w lab z pv q n (k+1) (W.setCell ⟨z,2,none⟩ (.slice (some ⟨g,0,none⟩) done'.length c)):=by
 have hs1:=hfr.size;have hs2:=hf.size;have hzl:=h.lt z 0 h.z0;have hgl:g<W.heap.size:=(hm.lt g rfl).2;obtain ⟨lab',hlab⟩:∃lab' :Nat→Option Nat,lab' =fun b=>if b<wr.heap.size then cZ b else if b=g then some 4 else none:=⟨_,rfl⟩
 have ho:∀b,b<wr.heap.size→lab' b=cZ b:=fun b hb=>by rw [hlab];exact if_pos hb
 have hn:∀b k,wr.heap.size≤b→lab' b=some k→k=4∧b=g:=fun b k hb hk=>by
  rw [hlab] at hk;simp only at hk;rw [if_neg oy] at hk
  split at hk
  ·rename_i hh
   injection hk with hk;exact ⟨hk.symm,hh⟩
  ·cases hk
 have hg4:lab' g=some 4:=by rw [hlab];simp only;rw [if_neg oy,if_pos trivial]
 have hfz:Fr (fun b=>b=z) W (W.setCell ⟨z,2,none⟩ (.slice (some ⟨g,0,none⟩) done'.length c)):=gU W ⟨z,2,none⟩ _;have hf2:Fr (fun b=>cZ b=some 0) wr (W.setCell ⟨z,2,none⟩ (.slice (some ⟨g,0,none⟩) done'.length c)):=(hf.mono (G:=fun b=>cZ b=some 0) fun _ hi=>hi.elim).setCell (p:=⟨z,2,none⟩) (.inl h.z0) _;have hz1:Blk W z qK #[.slice Ar Q.n cr,NV,DV]:=h1.fr hf id;have hown:aA W (part lab' 4) TEq 9 (.slice (some ⟨g,0,none⟩) done'.length c) done'.length (lF done'):=⟨hm,fun g' hg' =>by
  simp only [Value.ownBlock,Option.some.injEq] at hg';subst hg';exact hg4⟩
 have hq:=h.ail (lab' :=lab') h1 h2 h3 hf2 ho (fun b k hb hk=>⟨(hn b k hb hk).1,by rw [(hn b k hb hk).2];exact nll hgl hfz.size⟩) ((hz1.aC 2 _).conv rfl)
  (hown.fr' hfz fun g' hg' e=>by
   simp only [Value.ownBlock,Option.some.injEq] at hg'
   omega) ⟨h.ok.pos,h.ok.five,h.ok.each,h.ok.net,h.ok.msgs,hd⟩
 rw [hnext] at hq;refine ⟨lab',hq,fun b hb=>(ho b oy).trans (hl1 b hb),fun b j hb hj=> ?_,hfr.trans hf2 fun b hb=> ?_⟩
 ·rcases Nat.lt_or_ge b wr.heap.size with hl|hl
  ·rw [ho b hl] at hj
   exact hl2 b j hb hj
  ·exact (hn b j hl hj).1
 ·rcases Nat.lt_or_ge b w.heap.size with hl|hl
  ·rw [hl1 b hl] at hb
   exact .inl hb
  ·exact .inr hl
set_option maxHeartbeats 8000000 in
theorem alj (h:QAt w lab z pv q n):Calls Tryz.prog 209 #[.pointer (some ⟨z,0,none⟩)] w fun e w' =>e= .returned (.tuple #[])∧jD w lab z pv q n q.n w' :=by
 obtain ⟨i1,hi1,hy0,hy1,hy2⟩:=info_parts afy;have hstart:jD w lab z pv q n 0 w:=⟨lab,h,fun _ _=>rfl,fun b j hb hj=>absurd (h.lt b j hj) oy,Fr.refl _ _⟩;have h5:=h.ok.five;obtain ⟨br,cr0,hnc,hcm,hrow⟩:=h.row;unfold maxLen at hcm;have c0:=(hrow w (Fr.refl _ _)).1;have amk:∀W,Fr (fun b=>lab b=some 0) w W→∀i,i<q.n→W.cell? ⟨br,i,none⟩=some (.pointer (some ⟨pv i,0,none⟩)):=by
  obtain ⟨Ar,cr,NV,DV,vs,h1,h2,-⟩:=h.mem;obtain ⟨br',rfl,hbl,aw0,hb⟩:=qc h2 h.ok.pos;have e1:=c0;rw [h1.cell 0] at e1;have e2:some (Value.slice (some (⟨br',0,none⟩:Addr)) q.n cr)=some (Value.slice (some (⟨br,0,none⟩:Addr)) q.n cr0):=e1;simp only [Option.some.injEq,Value.slice.injEq,Addr.mk.injEq] at e2;obtain rfl:=e2.1.1;intro W hf i hi;rw [hf.cell (p:=⟨br',i,none⟩) hbl (fun hh=>bn (show (1:Nat)≠0 by omega) br' aw0 hh),(hb i (by simpa using hi)).1]
  simp
 clear h hrow;obtain ⟨nM,arv⟩:=aN hstart amk;clear hstart amk
 go_in
 go_wp2_with fail
 go_loopw [12] (fun i wr=>∃k:Nat,k≤q.n∧i= .int .i64 k∧jD w lab z pv q n k wr) (fun i _=>q.n-(intOf i).toNat)
 case atStart=>exact ⟨0,Nat.zero_le _,rfl,nM.out⟩
 case round=>
  obtain ⟨k,hk,rfl,cZ,hq,hl1,hl2,hfr⟩:=hrel
  by_cases hlt:k<q.n
  ·have b1:decide (k<q.n)=true:=by simpa using hlt
   have b2:decide ((k:Int)<(q.n:Int))=true:=by simp;omega
   have hlt2:(k:Int)<(q.n:Int):=by omega
   have rk:=arv.out wr hfr k hlt;have hrep:=hq.zy k hlt;obtain ⟨Q,hQ⟩:∃Q:Qs,Q={q with done:=r9 q.rs q.done k}:=⟨_,rfl⟩;rw [←hQ] at hq hrep;have hQn:Q.n=q.n:=by rw [hQ]
   have hQr:Q.rs k=q.rs k:=by rw [hQ]
   have hQd:Q.done=r9 q.rs q.done k:=by rw [hQ]
   obtain ⟨Ar,cr,NV,DV,ns,h1,h2,h3,h4⟩:=hq.mem;obtain ⟨Ad,cd,rfl,-⟩:=h4.form;have hd4:=hq.ok.done;have z2:wr.cell? ⟨z,2,none⟩=some (.slice Ad Q.done.length cd):=h1.cell 2;have aos:=hq.lt z 0 hq.z0;have akn:=hrep.ok;rw [hQr] at hrep akn;have hcom:=fun W (hf:Fr No wr W)=>wK (hrep.au hf);have ako:=fun W (hf:Fr No wr W)=>alv (hrep.au hf).rj akn.log.few;have hcl:=akn.com;have aoy:=akn.log.few;have hnx:({q with done:=r9 q.rs q.done (k+1)}:Qs)={Q with done:=if (q.rs k).commit≤Q.done.length then Q.done else (((q.rs k).js.log.take (q.rs k).commit).map (·.e))}:=by
    rw [hQd,hQ]
    rfl
   generalize hLL:(q.rs k).js.log=LL at*;generalize hCC:(q.rs k).commit=C at*
   by_cases hle:C≤Q.done.length
   ·have t1:decide (C≤Q.done.length)=true:=by simpa using hle
    have t2:decide ((C:Int)≤(Q.done.length:Int))=true:=by simp;omega
    rw [if_pos hle] at hnx;have T9:=O (show ∀j,jD w lab z pv q n (k+1) (wr.drewN j) from fun j=>⟨cZ,by rw [hnx];exact hq.au ((Fr.refl No wr).drewN j),hl1,hl2,hfr.drewN j⟩);clear hq h1 h2 h3 h4 hl1 hl2 hfr hrep akn ako hQ hnx hLL hCC hQn hQr hQd;have aod:=O hcom;clear hcom
    go_wp2_with fail
    go_quiet ((go_at_call 211;exact dK (aod.out _ ((Fr.refl No wr).drewN _))))
    go_wp2_with fail
    go_roundw
    case rel=>exact ⟨k+1,by omega,by go_num,T9.out _⟩
    case measure=>simp [intOf];omega
   ·have t1:decide (C≤Q.done.length)=false:=by simpa using hle
    have t2:decide ((C:Int)≤(Q.done.length:Int))=false:=by simp;omega
    rw [if_neg hle] at hnx;have hnext:=fun g c W (hg:wr.heap.size≤g) (hf:Fr No wr W) hm=>jD.next (w:=w) (lab:=lab) (q:=q) (k:=k) (g:=g) (c:=c) (W:=W) (done' :=(LL.take C).map (·.e)) hl1 hl2 hfr hq h1 h2 h3 hg hf hm (by rw [List.length_map,List.length_take];omega) hnx.symm;have hzf:=fun W (hf:Fr No wr W)=>(⟨(h1.fr hf id).cell 2,(h1.fr hf id).frozen 2⟩:W.cell? ⟨z,2,none⟩=some (.slice Ad Q.done.length cd)∧W.frozen? ⟨z,2,none⟩=false);have hlC:((LL.take C).map (·.e)).length=C:=by rw [List.length_map,List.length_take];omega
    rw [hlC] at hnext;clear hq h1 h2 h3 h4 hl1 hl2 hfr hrep akn hQ hnx hLL hCC hQn hQr hQd;obtain ⟨aod,ar2,lJ,HZF,HLC⟩:=jq hcom ako hnext hzf hlC;clear hcom ako hnext hzf hlC
    go_wp2_with fail
    go_quiet ((go_at_call 211;exact dK (aod.out _ ((Fr.refl No wr).drewN _))))
    have K1:=O ((Fr.refl No wr).drewN nq);generalize wr.drewN nq=w1 at*;clear z2 rk
    go_wp2_with fail
    refine (aod.out _ K1.out).mono ?_;rintro e w2 ⟨rfl,rfl⟩
    go_wp2_with (refine wpList_make_own _ rfl _ _ 117 rfl 0 TEq i1 _ 9 Tryz.underlying117 hi1 hy0 hy1 .i64 .i64 (C:Int) C rfl rfl rfl (by rw [hy2];omega) mxl (Nat.zero_le _) ?_)
    intro w3 hown3 hgrow3;obtain ⟨g,hg⟩:∃g,g=w1.heap.size:=⟨_,rfl⟩;have hg0:wr.heap.size≤g:=by rw [hg];exact K1.out.size
    have hg3:g<w3.heap.size:=by rw [hg];exact (hown3.lt w1.heap.size rfl).2
    have o3:aA w3 (fun b=>b=g) TEq 9 (.slice (some ⟨g,0,none⟩) 0 C) 0 []:=⟨by rw [hg];exact hown3,fun g' hg' =>by
     simp only [Value.ownBlock,Option.some.injEq] at hg'
     omega⟩
    have f3:Fr No wr w3:=K1.out.grown hgrow3 (fun _ h=>by cases h);rw [←hg];clear hown3 hgrow3 hg K1;obtain ⟨O3,F3⟩:=aN o3 f3;clear o3 f3
    go_wp2_with fail
    refine (ar2.out _ F3.out).mono ?_;rintro e w4 ⟨A4,c4,rfl,o4,f4⟩;have ho4:=o4.cap;obtain ⟨b4,rfl,hb4,hF4,-⟩:=o4.head oy;have f5:=F3.out.ah f4;have o5:=O3.out.au f4;have hcells:=fun (W:World) (hf:Fr (fun b=>b=g) w4 W) (i:Nat) (hi:i<LL.length)=>(Ent.wL (G:=fun b=>w3.heap.size≤b) (o4.fr' hf fun g' hg' e=>by
     simp only [Value.ownBlock,Option.some.injEq] at hg'
     omega)).at_ hi
    have akr:(C:Int)≤(c4:Int):=by omega
    clear o4 f4 F3 O3;obtain ⟨ahz,F5,O5⟩:=bC hcells f5 o5;clear hcells f5 o5
    go_wp2_with fail
    refine (aod.out _ F5.out).mono ?_;rintro e w5 ⟨rfl,rfl⟩
    go_wp2_with fail
    go_loopw [4,33] (fun l i wr' =>∃j:Nat,j≤C∧i= .int .i64 j∧l= .slice (some ⟨g,0,none⟩) j C∧aA wr' (fun b=>b=g) TEq 9 l j (lF ((LL.take j).map (·.e)))∧Fr (fun b=>b=g) w4 wr') (fun _ i _=>C-(intOf i).toNat)
    case atStart=>exact ⟨0,Nat.zero_le _,rfl,rfl,by simpa [lF] using O5.out,Fr.refl _ _⟩
    case round=>
     obtain ⟨j,hj,rfl,rfl,oj,fj⟩:=hrel
     by_cases hlj:j<C
     ·have ayn:(j:Int)<(C:Int):=by omega
      obtain ⟨b5,o5,x,e5,hx,hcs⟩:=ahz.out _ fj j oy;simp only [Option.some.injEq,Addr.mk.injEq] at e5;obtain ⟨rfl,rfl,-⟩:=e5;obtain ⟨d0,d1,d2,d3,d4,d5,d6,d7,d8,d9⟩:=hcs _ (Fr.refl _ _);have hsn:lF ((LL.take (j+1)).map (·.e))=lF ((LL.take j).map (·.e))++x.e.cells:=by
       rw [List.take_add_one,hx,Option.toList_some,List.map_append,List.map_singleton,acg]
      obtain ⟨t,⟨kd,tick,te,ce,ot,ep,fr,un,nn⟩⟩:=x
      change lF _=lF _++En.cells ⟨kd,tick,te,ce,ot,ep,fr,un,nn⟩ at hsn
      simp only [Nat.zero_add] at d0 d1 d2 d3 d4 d5 d6 d7 d8 d9;obtain ⟨W1,hW1⟩:∃W1,W1=World.alloc wr (.cells #[.int .i64 t,.int .i64 kd,.int .i64 tick,.int .i64 te,.int .i64 ce,.int .i64 ot,.int .i64 ep,.int .i64 fr,.int .i64 un,.int .i64 nn] TLg):=⟨_,rfl⟩;have hf1:Fr No wr W1:=by rw [hW1];exact aj _ _
      obtain ⟨gx,hgx⟩:∃gx,gx=wr.heap.size:=⟨_,rfl⟩;have hb1:Blk W1 gx TLg (Lg.cells ⟨t,⟨kd,tick,te,ce,ot,ep,fr,un,nn⟩⟩).toArray:=by rw [hgx,hW1];exact Blk.new _ _ _
      obtain ⟨c0',c1,c2,c3,c4',c5,c6,c7,c8,c9⟩:=wU hb1;simp only at c1 c2 c3 c4' c5 c6 c7 c8 c9;have o1:=oj.au hf1;have f1:=fj.trans hf1 fun _ h=>h.elim;have hxg:=hb1.lt;clear hx hcs hb1 hf1 oj fj;obtain ⟨HSN,O1,F1,HW1,HGX⟩:=jq hsn o1 f1 hW1 hgx;clear hsn o1 f1 hW1 hgx
      go_upto_region 8 with fail
      rw [←HW1.out,←HGX.out];clear d0 d1 d2 d3 d4 d5 d6 d7 d8 d9;clear HW1 HGX
      go_wp2_with (at_builtin;refine wpList_append_fits _ rfl (.tmp 37) (.tmp 40) 117 rfl 0 TEq i1 9 Tryz.underlying117 hi1 hy1 g j C _ rfl (O1.out.au (aj _ _)).1 ⟨W1.heap.size,0,none⟩ 1 1 (En.cells ⟨kd,tick,te,ce,ot,ep,fr,un,nn⟩) rfl rfl (aa3 _ _ _) (acf _) oy ?_)
      intro w6 hown6 ahe;rw [←List.map_take,←HSN.out] at hown6;have T9:=O (show aA w6 (fun b=>b=g) TEq 9 (.slice (some ⟨g,0,none⟩) (j+1) C) (j+1) (lF ((LL.take (j+1)).map (·.e)))∧Fr (fun b=>b=g) w4 w6 from ⟨⟨hown6,fun g' hg' =>by
       simp only [Value.ownBlock,Option.some.injEq] at hg';exact hg'.symm⟩,(F1.out.alloc _).grown ahe fun k' hk' =>by
       simp only [Option.some.injEq] at hk';exact .inl hk'.symm⟩)
      clear hown6 ahe HSN O1 F1
      go_wp2_with fail
      go_roundw
      case rel=>exact ⟨j+1,by omega,by go_num,rfl,T9.out.1,T9.out.2⟩
      case measure=>simp [intOf];omega
     ·obtain rfl:j=C:=by omega
      have F9:=F5.out.aD fj fun _ h=>by omega
      obtain ⟨z9,y9⟩:=HZF.out _ F9;have T9:=O (lJ.out g j _ hg0 F9 oj.1);have hzl:=F9.size;clear F9 fj oj HZF lJ ahz F5 O5
      go_wp2_with fail
      refine ⟨⟨k+1,by omega,by go_num,T9.out⟩,?_⟩
      simp [intOf]
      omega
  ·obtain rfl:k=q.n:=by omega
   have b1:decide (q.n<q.n)=false:=by simp
   have T9:=O (show jD w lab z pv q n q.n wr from ⟨cZ,hq,hl1,hl2,hfr⟩);clear hq hl1 hl2 hfr
   go_wp2_with fail
   go_end0
   exact ⟨rfl,T9.out⟩
end
end
section
abbrev aj5:TypeId:=274
def adl (kind who num:Int)(e:En):List Value:=[.int .i64 kind,.int .i64 who,.int .i64 num,.int .i64 e.kind,.int .i64 e.tick,.int .i64 e.bF,.int .i64 e.cell,.int .i64 e.other,.int .i64 e.epoch,.int .i64 e.from_,.int .i64 e.fE,.int .i64 e.n]
def akt (kind who num:Int)(e:En):Value:= .agg #[.int .i64 kind,.int .i64 who,.int .i64 num,.int .i64 e.kind,.int .i64 e.tick,.int .i64 e.bF,.int .i64 e.cell,.int .i64 e.other,.int .i64 e.epoch,.int .i64 e.from_,.int .i64 e.fE,.int .i64 e.n]
theorem ku {w:World}{g:Nat}{kind who num:Int}{e:En}(hb:Blk w g aj5 (adl kind who num e).toArray):w.cell? ⟨g,0,none⟩=some (.int .i64 kind)∧w.cell? ⟨g,1,none⟩=some (.int .i64 who)∧w.cell? ⟨g,2,none⟩=some (.int .i64 num)∧w.cell? ⟨g,3,none⟩=some (.int .i64 e.kind)∧w.cell? ⟨g,4,none⟩=some (.int .i64 e.tick)∧w.cell? ⟨g,5,none⟩=some (.int .i64 e.bF)∧w.cell? ⟨g,6,none⟩=some (.int .i64 e.cell)∧w.cell? ⟨g,7,none⟩=some (.int .i64 e.other)∧w.cell? ⟨g,8,none⟩=some (.int .i64 e.epoch)∧w.cell? ⟨g,9,none⟩=some (.int .i64 e.from_)∧w.cell? ⟨g,10,none⟩=some (.int .i64 e.fE)∧w.cell? ⟨g,11,none⟩=some (.int .i64 e.n):=
 ⟨hb.cell 0,hb.cell 1,hb.cell 2,hb.cell 3,hb.cell 4,hb.cell 5,hb.cell 6,hb.cell 7,hb.cell 8,hb.cell 9,hb.cell 10,hb.cell 11⟩
section
variable {w w' :World}{lab lab' :Nat→Option Nat}{z n m:Nat}{pv:Nat→Nat}{q:Qs}{F:Nat→Prop}
theorem mE (h:QAt w lab z pv q n)(kind who num:Int)(e:En):Calls Tryz.prog 201 #[.pointer (some ⟨z,0,none⟩),akt kind who num e] w fun x w' =>x= .returned (.bool (q.permits kind who num))∧Fr No w w' :=by
 have hhas:=fun W (hf:Fr No w W)=>aiq (h.au hf) who;obtain ⟨Ar,cr,NV,DV,vs,h1,h2,h3,h4⟩:=h.mem;have ajn:=h.ok.net;obtain ⟨A,c,rfl,-⟩:=h3.own.form;obtain ⟨W0,hW0⟩:∃W0,W0=w.alloc (.cells (adl kind who num e).toArray aj5):=⟨_,rfl⟩;have hf0:Fr No w W0:=by rw [hW0];exact aj _ _
 obtain ⟨g,hg⟩:∃g,g=w.heap.size:=⟨_,rfl⟩;have hb0:Blk W0 g aj5 (adl kind who num e).toArray:=by rw [hg,hW0];exact Blk.new _ _ _
 obtain ⟨c0,c1,c2,-⟩:=ku hb0;have z1:W0.cell? ⟨z,1,none⟩=some (.slice A q.net.length c):=(h1.fr hf0 id).cell 1;have hzl:z<W0.heap.size:=nll (h.lt z 0 h.z0) hf0.size;have hgl:=hb0.lt;have hP:∀b,q.permits kind who num=b→q.permits kind who num=b:=fun _ h=>h;unfold Qs.permits at hP;obtain ⟨Y,hY⟩:∃Y,Y=q.permits kind who num:=⟨_,rfl⟩;have hYe:Y=if kind=1∨kind=2∨kind=3∨kind=7 then decide (0≤who∧who<q.n) else if kind=4∨kind=5∨kind=6 then decide (0≤num∧num<q.net.length) else false:=by rw [hY];rfl
 rw [←hY];obtain ⟨ek,ti,te,ce,ot,ep,fr,un,nn⟩:=e;simp only [adl] at hW0;unfold akt;generalize q.net.length=L at*;generalize q.n=N at*;have afn:=hhas W0 hf0;clear h h1 h2 h3 h4 hP hY hhas hb0;have hf0:=O hf0
 by_cases hk:kind=1∨kind=2∨kind=3∨kind=7
 ·rw [if_pos hk] at hYe
  rw [←hYe] at afn;clear hYe;obtain ⟨ar5,HW0,HG⟩:=bC afn hW0 hg;clear afn hW0 hg
  rcases hk with rfl|rfl|rfl|rfl
  all_goals
   go_in
   go_upto_region 1 with fail
   rw [←HW0.out,←HG.out]
   go_wp2_with fail
   refine ar5.out.mono ?_;rintro x w1 ⟨rfl,rfl⟩
   go_wp2_with fail
   go_ret
   exact ⟨rfl,hf0.out⟩
 ·rw [if_neg hk] at hYe
  clear afn
  by_cases hk2:kind=4∨kind=5∨kind=6
  ·rw [if_pos hk2] at hYe
   clear hk
   by_cases n0:0≤num
   ·by_cases n1:num<L
    ·have t0:decide (0≤num)=true:=by simpa using n0
     have t1:decide (num<(L:Int))=true:=by simpa using n1
     obtain rfl:Y=true:=by rw [hYe];simp;omega
     clear hYe;obtain ⟨HW0,HG⟩:=aN hW0 hg;clear hW0 hg
     rcases hk2 with rfl|rfl|rfl
     all_goals
      go_in
      go_upto_region 1 with fail
      rw [←HW0.out,←HG.out]
      go_wp2_with fail
      go_quiet (fail)
      go_wp2_with fail
      go_ret
      exact ⟨rfl,hf0.out.drewN _⟩
    ·have t0:decide (0≤num)=true:=by simpa using n0
     have t1:decide (num<(L:Int))=false:=by simpa using n1
     obtain rfl:Y=false:=by rw [hYe];simp;omega
     clear hYe;obtain ⟨HW0,HG⟩:=aN hW0 hg;clear hW0 hg
     rcases hk2 with rfl|rfl|rfl
     all_goals
      go_in
      go_upto_region 1 with fail
      rw [←HW0.out,←HG.out]
      go_wp2_with fail
      go_quiet (fail)
      go_wp2_with fail
      go_ret
      exact ⟨rfl,hf0.out.drewN _⟩
   ·have t0:decide (0≤num)=false:=by simpa using n0
    obtain rfl:Y=false:=by rw [hYe];simp;omega
    clear hYe;obtain ⟨HW0,HG⟩:=aN hW0 hg;clear hW0 hg
    rcases hk2 with rfl|rfl|rfl
    all_goals
     go_in
     go_upto_region 1 with fail
     rw [←HW0.out,←HG.out]
     go_wp2_with fail
     go_quiet (fail)
     go_wp2_with fail
     go_ret
     exact ⟨rfl,hf0.out.drewN _⟩
  ·rw [if_neg hk2] at hYe
   obtain ⟨k1,k2,k3,k7⟩:kind≠1∧kind≠2∧kind≠3∧kind≠7:=by omega
   obtain ⟨k4,k5,k6⟩:kind≠4∧kind≠5∧kind≠6:=by omega
   clear hk hk2;subst hYe;obtain ⟨HW0,HG⟩:=aN hW0 hg;clear hW0 hg
   go_in
   go_upto_region 1 with fail
   rw [←HW0.out,←HG.out]
   go_wp2_with fail
   go_ret
   exact ⟨rfl,hf0.out⟩
end
end
section
theorem oC (i n:Nat):(others i n).length≤n:=by
 unfold others;exact Nat.le_trans (List.length_filter_le _ _) (by simp)
theorem gJ.zX {r:Rs}(h:gJ r):r.nO.length≤5:=by
 unfold Rs.nO;rw [List.length_map];exact Nat.le_trans (oC _ _) h.five
theorem gJ.sW {r:Rs}(h:gJ r):r.bB.2.length≤5:=by
 unfold Rs.bB
 split
 ·simp
 ·split
  ·simp
  ·simp only [List.length_map]
   exact Nat.le_trans (oC _ _) h.five
theorem gJ.uw {r:Rs}(h:gJ r)(e:En)(he:e.ok):(r.propose e).2.length≤5:=by
 unfold Rs.propose
 split
 ·exact (h.proposed e he).zX
 ·simp
section
variable {w w' :World}{lab lab' :Nat→Option Nat}{z n m:Nat}{pv:Nat→Nat}{q q1:Qs}{F:Nat→Prop}
theorem jB.to {l:List Ms}(h:jB w lab z pv q n l l.length w'):QTo w lab z pv {q with net:=sendAll q.net l} n w' :=by
 obtain ⟨lab',h1,h2,h3,h4,-⟩:=h;rw [List.take_length] at h1;exact ⟨lab',h1,h2,h4.mono fun b hb=>by rcases hb with hb|hb<;>rw [hb]<;>simp⟩
theorem jD.to (h:jD w lab z pv q n q.n w'):QTo w lab z pv q.note n w' :=by
 obtain ⟨lab',h1,h2,h3,h4⟩:=h;exact ⟨lab',h1,h2,h4.mono fun b hb=>by rw [hb];simp⟩
theorem QTo.from {w1:World}{cZ:Nat→Option Nat}(h:QTo w1 cZ z pv q n w')(ha:∀b,b<w.heap.size→cZ b=lab b)(hf:Fr (fun b=>lab b≠none) w w1):QTo w lab z pv q n w' :=by
 obtain ⟨dW,a2,b2,c2⟩:=h;refine ⟨dW,a2,fun b hb=>(b2 b (nll hb hf.size)).trans (ha b hb),hf.trans c2 fun b hb=> ?_⟩
 rcases Nat.lt_or_ge b w.heap.size with hl|hl
 ·rw [ha b hl] at hb
  exact .inl hb
 ·exact .inr hl
def Keeps (w:World)(lab:Nat→Option Nat)(z:Nat)(W:World):Prop:=
 (∀p:Addr,p.block<w.heap.size→(lab p.block=none∨lab p.block=some 1)→W.cell? p=w.cell? p)∧W.cell? ⟨z,0,none⟩=w.cell? ⟨z,0,none⟩
theorem QAt.asq (h:QAt w lab z pv q n):∃br cr,q.n≤cr∧cr≤maxLen∧lab br=some 1∧br<w.heap.size∧w.cell? ⟨z,0,none⟩=some (.slice (some ⟨br,0,none⟩) q.n cr)∧∀i,i<q.n→w.cell? ⟨br,i,none⟩=some (.pointer (some ⟨pv i,0,none⟩)):=by
 obtain ⟨Ar,cr,NV,DV,vs,h1,h2,h3,h4⟩:=h.mem;have hp:=h.ok.pos;have hc:=h2.cap;obtain ⟨br,rfl,hbl,hb1,hb⟩:=qc h2 hp;refine ⟨br,cr,hc.1,hc.2,hb1,hbl,h1.cell 0,fun i hi=> ?_⟩;rw [(hb i (by simpa using hi)).1]
 simp
theorem QAt.keeps (h:QAt w lab z pv q n){i:Nat}(hf:Fr (part lab (10+i)) w w'):Keeps w lab z w' :=by
 refine ⟨fun p hp hl=>hf.cell hp fun (hh:lab p.block=some (10+i))=> ?_,hf.cell (p:=⟨z,0,none⟩) (h.lt z 0 h.z0) (bn (show (0:Nat)≠10+i by omega) z h.z0)⟩;rw [hh] at hl
 rcases hl with hl|hl
 ·cases hl
 ·injection hl with hl
  omega
theorem QAt.sent (h:QAt w lab z pv q n){i:Nat}(hi:i<q.n){x:Rs×List Ms}{e:Ending}(hnm:n≤m)(hc:jE w (part lab (10+i)) (pv i) x m e w')(h1:x.1.id=(q.rs i).id)(h2:x.1.n=(q.rs i).n)(hto:∀y∈x.2,kD q.n y)(hl:x.2.length≤5):
  ∃A c,e= .returned (.slice A x.2.length c)∧Keeps w lab z w'∧Calls Tryz.prog 202 #[.pointer (some ⟨z,0,none⟩),.slice A x.2.length c] w' fun e2 w2=>e2= .returned (.tuple #[])∧Keeps w lab z w2∧QTo w lab z pv (q.put i x) m w2:=by
 obtain ⟨A,c,lab',Gs,vs,e1,a1,a2,a3,a4,a5⟩:=h.turned hi hnm hc h1 h2;have hk:=h.keeps a5;refine ⟨A,c,e1,hk,(ali a1 a2 a3 hto oy).mono ?_⟩;rintro e2 w2 ⟨rfl,s⟩;refine ⟨rfl,⟨fun p hp hl=> ?_,?_⟩,?_⟩
 ·obtain ⟨-,-,-,-,s4,-⟩:=s
  rw [s4.cell (nll hp a5.size) (fun hh=> ?_),hk.1 p hp hl];rw [a4 _ hp] at hh
  rcases hl with hl|hl<;>rw [hl] at hh<;>simp at hh
 ·obtain ⟨-,-,-,-,-,s5⟩:=s
  exact s5.trans hk.2
 ·have:=s.to
  exact this.from a4 (a5.mono fun b hb=>by
   have hb:lab b=some (10+i):=hb;rw [hb];simp)
theorem QTo.noted (h:QTo w lab z pv q n w'):Calls Tryz.prog 209 #[.pointer (some ⟨z,0,none⟩)] w' fun e2 w2=>e2= .returned (.tuple #[])∧QTo w lab z pv q.note n w2:=by
 obtain ⟨lab',h1,h2,h3⟩:=h;refine (alj h1).mono ?_;rintro e2 w2 ⟨rfl,s⟩;exact ⟨rfl,s.to.from h2 h3⟩
end
end
section
section
variable {w w' :World}{lab lab' :Nat→Option Nat}{z n m:Nat}{pv:Nat→Nat}{q q1:Qs}{F:Nat→Prop}
def apj (w:World)(lab:Nat→Option Nat)(z:Nat)(pv:Nat→Nat)(q:Qs)(n:Nat)(kind who num:Int)(e:En)(x:Ending)(w' :World):Prop:=
 x= .returned (.int .i64 (q.zB kind who num e))∧QTo w lab z pv (q.act kind who num e) (n+700000) w'
set_option maxHeartbeats 8000000 in
theorem alm (h:QAt w lab z pv q n)(i:Nat)(hi:i<q.n)(num:Int)(e:En)(hsz:n+800000≤140737488355328):Calls Tryz.prog 151 #[.pointer (some ⟨z,0,none⟩),akt 1 i num e] w (apj w lab z pv q n 1 i num e):=by
 have hpm:q.permits 1 (i:Int) num=true:=by unfold Qs.permits;simp;omega
 have hX:q.zB 1 (i:Int) num e=0:=by unfold Qs.zB;simp [hpm]
 have hA:q.act 1 (i:Int) num e=(q.put i ((q.rs i).bB)).note:=by unfold Qs.act;simp [hX]<;>rfl
 obtain ⟨W0,hW0⟩:∃W0,W0=w.alloc (.cells (adl 1 (i:Int) num e).toArray aj5):=⟨_,rfl⟩;have hf0:Fr No w W0:=by rw [hW0];exact aj _ _
 obtain ⟨g,hg⟩:∃g,g=w.heap.size:=⟨_,rfl⟩;have hb0:Blk W0 g aj5 (adl 1 (i:Int) num e).toArray:=by rw [hg,hW0];exact Blk.new _ _ _
 have afl:=mE (h.au hf0) 1 (i:Int) num e;rw [hpm] at afl;have hac:=fun W (hf:Fr No W0 W)=>ku (hb0.fr hf id);obtain ⟨br,cr,hnc,hcm,hb1,hbl,r0,r1⟩:=h.asq;have hzw:=h.lt z 0 h.z0;have hgn:lab g=none:=by
  cases hlg:lab g with
  |none=>rfl
  |some j=>exact absurd (h.lt g j hlg) oy
 have hks:=fun W V (hf:Fr No W0 W) (hk:Keeps W lab z V)=>(⟨hk.2.trans (((hf0.ah hf).cell (p:=⟨z,0,none⟩) hzw fun h=>h).trans r0),(hk.1 ⟨g,1,none⟩ (nll hb0.lt hf.size) (.inl hgn)).trans ((hb0.fr hf fun h=>h).cell 1),(hk.1 ⟨br,i,none⟩ (nll hbl (hf0.ah hf).size) (.inr hb1)).trans (((hf0.ah hf).cell (p:=⟨br,i,none⟩) hbl fun h=>h).trans (r1 i hi))⟩:V.cell? ⟨z,0,none⟩=some (.slice (some ⟨br,0,none⟩) q.n cr)∧V.cell? ⟨g,1,none⟩=some (.int .i64 i)∧V.cell? ⟨br,i,none⟩=some (.pointer (some ⟨pv i,0,none⟩)));have h5:=h.ok.five;obtain ⟨o1,o2,o3⟩:=h.ok.each i hi;have hcall:=fun W (hf:Fr No w W)=>yH ((h.au hf).zy i hi) oy;have yS:=fun W W' x (hf:Fr No w W) hc=>(h.au hf).sent (m:=n+48) hi (x:=((q.rs i).bB)) (e:=x) (w' :=W') oy hc (oV _).1 (oV _).2 (by have:=o1.vH;rw [o3] at this;exact this) o1.sW;have hend:=fun W W' (hf:Fr No w W) (hq:QTo W lab z pv (q.put i ((q.rs i).bB)).note (n+48) W')=>QTo.after (n:=n+700000) hf h.lt (hq.more oy);have hi2:(i:Int)<(q.n:Int):=by omega
 have hzl:z<W0.heap.size:=nll (h.lt z 0 h.z0) hf0.size;obtain ⟨c0,c1,c2,c3,c4,c5,c6,c7,c8,c9,c10,c11⟩:=hac W0 (Fr.refl _ _);have hgl:=hb0.lt;unfold maxLen at hcm;unfold apj;rw [hX,hA];have FF:=O hf0;obtain ⟨ek,ti,te,ce,ot,ep,fr,un,nn⟩:=e;simp only [adl] at hW0;simp only at c3 c4 c5 c6 c7 c8 c9 c10 c11;unfold akt at afl ⊢;clear h hpm hX hA hb0 hf0 o1 o2 o3;obtain ⟨aob,HAC,HKS,adi,adg,xI,HW0,HG⟩:=aou afl hac hks hcall yS hend hW0 hg;clear afl hac hks hcall yS hend hW0 hg
 go_in
 go_upto_region 1 with fail
 rw [←HW0.out,←HG.out]
 go_wp2_with fail
 refine aob.out.mono ?_;rintro e w1 ⟨rfl,f1⟩;obtain ⟨d0,d1,d2,-⟩:=HAC.out w1 f1;have F1:=O (FF.out.ah f1).drew;have hd:=HKS.out w1.drew w1.drew f1.drew ⟨fun _ _ _=>rfl,rfl⟩;have HKT:=O fun V (hk:Keeps w1.drew lab z V)=>HKS.out w1.drew V f1.drew hk;have hz1:z<w1.heap.size:=nll hzl f1.size;have hg1:g<w1.heap.size:=nll hgl f1.size;have aks:=O (adi.out _ F1.out);have akm:=O fun W' x=>adg.out _ W' x F1.out;clear c0 c1 c2 c3 c4 c5 c6 c7 c8 c9 c10 c11 f1 HKS HAC adi adg aob r0 r1
 go_wp2_with fail
 go_region_held3 (fun V=>V.cell? ⟨z,0,none⟩=some (.slice (some ⟨br,0,none⟩) q.n cr)∧V.cell? ⟨g,1,none⟩=some (.int .i64 i)∧V.cell? ⟨br,i,none⟩=some (.pointer (some ⟨pv i,0,none⟩))) (first|exact hd|exact k1|exact k2) (first
  |(go_at_call 203;refine aks.out.mono ?_;rintro e v1 hc;obtain ⟨A1,c1',rfl,k1',hs⟩:=akm.out _ _ hc;have k1:=HKT.out _ k1';have HS2:=O hs;clear hc k1' hs)
  |(go_at_call 202;refine HS2.out.mono ?_;rintro e v2 ⟨rfl,k2',q2⟩;have k2:=HKT.out _ k2';have Q2:=O q2;clear k2' q2))
 have abt:=O (QTo.noted Q2.out);clear hd HKT d0 d1 d2 k2 aks akm HS2
 go_wp2_with fail
 refine abt.out.mono ?_;rintro e v3 ⟨rfl,q3⟩;have Q3:=O (xI.out _ _ F1.out q3);clear q3 abt xI Q2
 go_wp2_with fail
 go_ret
 exact ⟨rfl,Q3.out⟩
end
end
section
section
variable {w w' :World}{lab lab' :Nat→Option Nat}{z n m:Nat}{pv:Nat→Nat}{q q1:Qs}{F:Nat→Prop}
theorem iO.to1 {F:Nat→Prop}{p:Nat}{x:Rs×List Ms}{X:Int}{e:Ending}(h:iO w F p x X n e w'):∃A c,e= .returned (.tuple #[.slice A x.2.length c,.int .i64 X])∧jE w F p x n (.returned (.slice A x.2.length c)) w' :=by
 obtain ⟨A,c,F',G,e1,h1⟩:=h;exact ⟨A,c,e1,A,c,F',G,rfl,h1⟩
theorem ou {r:Rs}{e:En}(h:r.kJ e≠0):r.propose e=(r,[]):=by unfold Rs.propose;rw [if_neg h]
theorem aew (q:Qs)(i:Nat):q.put i (q.rs i,[])=q:=by
 obtain ⟨n,rs,net,d⟩:=q;unfold Qs.put;simp only [Qs.mk.injEq,true_and,and_true];refine ⟨funext fun k=> ?_,rfl⟩
 by_cases hk:k=i
 ·subst hk;exact pQ _ _ _
 ·exact upd_ne hk
set_option maxHeartbeats 8000000 in
theorem ag3 (h:QAt w lab z pv q n)(i:Nat)(hi:i<q.n)(num:Int)(e:En)(he:e.ok)(hsz:n+800000≤140737488355328):Calls Tryz.prog 151 #[.pointer (some ⟨z,0,none⟩),akt 2 i num e] w (apj w lab z pv q n 2 i num e):=by
 have hpm:q.permits 2 (i:Int) num=true:=by unfold Qs.permits;simp;omega
 have hX:q.zB 2 (i:Int) num e=(q.rs i).kJ e:=by unfold Qs.zB;simp [hpm]
 have hA:(q.rs i).kJ e=0→q.act 2 (i:Int) num e=(q.put i ((q.rs i).propose e)).note:=fun h0=>by unfold Qs.act;simp [hX,h0]
 have hA2:(q.rs i).kJ e≠0→q.act 2 (i:Int) num e=q.put i ((q.rs i).propose e):=fun h0=>by rw [ou h0,aew];unfold Qs.act;simp [hX,h0]
 obtain ⟨W0,hW0⟩:∃W0,W0=w.alloc (.cells (adl 2 (i:Int) num e).toArray aj5):=⟨_,rfl⟩;have hf0:Fr No w W0:=by rw [hW0];exact aj _ _
 obtain ⟨g,hg⟩:∃g,g=w.heap.size:=⟨_,rfl⟩;have hb0:Blk W0 g aj5 (adl 2 (i:Int) num e).toArray:=by rw [hg,hW0];exact Blk.new _ _ _
 have afl:=mE (h.au hf0) 2 (i:Int) num e;rw [hpm] at afl;have hac:=fun W (hf:Fr No W0 W)=>ku (hb0.fr hf id);obtain ⟨br,cr,hnc,hcm,hb1,hbl,r0,r1⟩:=h.asq;have hzw:=h.lt z 0 h.z0;have hgn:lab g=none:=by
  cases hlg:lab g with
  |none=>rfl
  |some j=>exact absurd (h.lt g j hlg) oy
 have hgk:=fun W V (hf:Fr No W0 W) (hk:Keeps W lab z V) (o:Nat)=>hk.1 ⟨g,o,none⟩ (nll hb0.lt hf.size) (.inl hgn);have hks:=fun W V (hf:Fr No W0 W) (hk:Keeps W lab z V)=>(let ⟨_,a1,_,a3,a4,a5,a6,a7,a8,a9,a10,a11⟩:=ku (hb0.fr hf id);⟨hk.2.trans (((hf0.ah hf).cell (p:=⟨z,0,none⟩) hzw fun h=>h).trans r0),(hgk W V hf hk 1).trans a1,(hgk W V hf hk 3).trans a3,(hgk W V hf hk 4).trans a4,(hgk W V hf hk 5).trans a5,(hgk W V hf hk 6).trans a6,(hgk W V hf hk 7).trans a7,(hgk W V hf hk 8).trans a8,(hgk W V hf hk 9).trans a9,(hgk W V hf hk 10).trans a10,(hgk W V hf hk 11).trans a11,(hk.1 ⟨br,i,none⟩ (nll hbl (hf0.ah hf).size) (.inr hb1)).trans (((hf0.ah hf).cell (p:=⟨br,i,none⟩) hbl fun h=>h).trans (r1 i hi))⟩:V.cell? ⟨z,0,none⟩=some (.slice (some ⟨br,0,none⟩) q.n cr)∧V.cell? ⟨g,1,none⟩=some (.int .i64 i)∧V.cell? ⟨g,3,none⟩=some (.int .i64 e.kind)∧V.cell? ⟨g,4,none⟩=some (.int .i64 e.tick)∧V.cell? ⟨g,5,none⟩=some (.int .i64 e.bF)∧V.cell? ⟨g,6,none⟩=some (.int .i64 e.cell)∧V.cell? ⟨g,7,none⟩=some (.int .i64 e.other)∧V.cell? ⟨g,8,none⟩=some (.int .i64 e.epoch)∧V.cell? ⟨g,9,none⟩=some (.int .i64 e.from_)∧V.cell? ⟨g,10,none⟩=some (.int .i64 e.fE)∧V.cell? ⟨g,11,none⟩=some (.int .i64 e.n)∧V.cell? ⟨br,i,none⟩=some (.pointer (some ⟨pv i,0,none⟩)));have h5:=h.ok.five;obtain ⟨o1,o2,o3⟩:=h.ok.each i hi;have hcall:=fun W (hf:Fr No w W)=>aax ((h.au hf).zy i hi) e he oy;have yS:=fun W W' x (hf:Fr No w W) hc=>(h.au hf).sent (m:=n+128) hi (x:=(q.rs i).propose e) (e:=x) (w' :=W') oy hc (jZ _ e).1 (jZ _ e).2 (by have:=o1.yC e he;rw [o3] at this;exact this) (o1.uw e he)
 have hturn:=fun W W' x (hf:Fr No w W) hc (hX0:(q.rs i).kJ e≠0)=>(let ⟨_,_,lab',_,_,_,b2,_,_,b5,b6⟩:=(h.au hf).turned (m:=n+128) hi (x:=(q.rs i).propose e) (e:=x) (w' :=W') oy hc (jZ _ e).1 (jZ _ e).2;⟨lab',by rw [ou hX0] at b2 ⊢;exact b2,b5,b6.mono fun b hb=>by
  have hb:lab b=some (10+i):=hb;rw [hb];simp⟩:QTo W lab z pv (q.put i ((q.rs i).propose e)) (n+128) W')
 have hend:=fun W W' qq (hf:Fr No w W) (hq:QTo W lab z pv qq (n+128) W')=>QTo.after (n:=n+700000) hf h.lt (hq.more oy);have hi2:(i:Int)<(q.n:Int):=by omega
 have hzl:z<W0.heap.size:=nll (h.lt z 0 h.z0) hf0.size;obtain ⟨c0,c1,c2,c3,c4,c5,c6,c7,c8,c9,c10,c11⟩:=hac W0 (Fr.refl _ _);have hgl:=hb0.lt;unfold maxLen at hcm;unfold apj;rw [hX];have FF:=O hf0;obtain ⟨Y,hY⟩:∃Y,Y=(q.rs i).propose e:=⟨_,rfl⟩;obtain ⟨XX,hXX⟩:∃XX,XX=(q.rs i).kJ e:=⟨_,rfl⟩;obtain ⟨AQ,hAQ⟩:∃AQ,AQ=q.act 2 (i:Int) num e:=⟨_,rfl⟩;rw [←hAQ,←hXX];rw [←hY,←hXX] at hcall;rw [←hAQ,←hXX,←hY] at hA hA2;simp only [←hY,←hXX] at yS hturn;obtain ⟨ek,ti,te,ce,ot,ep,fr,un,nn⟩:=e;simp only [adl] at hW0;simp only at c3 c4 c5 c6 c7 c8 c9 c10 c11 hks;unfold akt at afl ⊢;unfold En.v at hcall;clear h hpm hX hb0 hf0 o1 o2 o3 hgk hXX hY hAQ he;obtain ⟨aob,HAC,HKS,adi,adg,an6,xI,HW0,HG,HA,HA2⟩:=kP afl hac hks hcall yS hturn hend hW0 hg hA hA2;clear afl hac hks hcall yS hturn hend hW0 hg hA hA2
 go_in
 go_upto_region 1 with fail
 rw [←HW0.out,←HG.out]
 go_wp2_with fail
 refine aob.out.mono ?_;rintro e w1 ⟨rfl,f1⟩;obtain ⟨d0,d1,d2,-⟩:=HAC.out w1 f1;have F1:=O (FF.out.ah f1).drew;have hd:=HKS.out w1.drew w1.drew f1.drew ⟨fun _ _ _=>rfl,rfl⟩;have HKT:=O fun V (hk:Keeps w1.drew lab z V)=>HKS.out w1.drew V f1.drew hk;have hz1:z<w1.heap.size:=nll hzl f1.size;have hg1:g<w1.heap.size:=nll hgl f1.size;have aks:=O (adi.out _ F1.out);have akm:=O fun W' x=>adg.out _ W' x F1.out;have aqd:=O fun W' x=>an6.out _ W' x F1.out;clear c0 c1 c2 c3 c4 c5 c6 c7 c8 c9 c10 c11 f1 HKS HAC adi adg an6 aob r0 r1
 go_wp2_with fail
 go_region_held3 (fun V=>V.cell? ⟨z,0,none⟩=some (.slice (some ⟨br,0,none⟩) q.n cr)∧V.cell? ⟨g,1,none⟩=some (.int .i64 i)∧V.cell? ⟨g,3,none⟩=some (.int .i64 ek)∧V.cell? ⟨g,4,none⟩=some (.int .i64 ti)∧V.cell? ⟨g,5,none⟩=some (.int .i64 te)∧V.cell? ⟨g,6,none⟩=some (.int .i64 ce)∧V.cell? ⟨g,7,none⟩=some (.int .i64 ot)∧V.cell? ⟨g,8,none⟩=some (.int .i64 ep)∧V.cell? ⟨g,9,none⟩=some (.int .i64 fr)∧V.cell? ⟨g,10,none⟩=some (.int .i64 un)∧V.cell? ⟨g,11,none⟩=some (.int .i64 nn)∧V.cell? ⟨br,i,none⟩=some (.pointer (some ⟨pv i,0,none⟩))) (first|exact hd|exact k1) (first
  |(go_at_call 204;refine aks.out.mono ?_;rintro e v1 hc;obtain ⟨A1,c1',rfl,hc1⟩:=iO.to1 hc;obtain ⟨A2,c2',e2,k1',hs⟩:=akm.out _ _ hc1;injection e2 with e2;injection e2 with q1 q2 q3;subst q1 q3;have k1:=HKT.out _ k1';have HS2:=O hs;have HT2:=O (aqd.out _ _ hc1);clear hc hc1 k1' hs q2))
 by_cases hx0:XX=0
 ·have HAA:=O (HA.out hx0)
  subst hx0;clear hd HKT d0 d1 d2 k1 aks akm aqd HT2 HA HA2
  go_wp2_with fail
  refine HS2.out.mono ?_;rintro e v2 ⟨rfl,-,q2⟩;have abt:=O (QTo.noted q2);clear q2 HS2
  go_wp2_with fail
  refine abt.out.mono ?_;rintro e v3 ⟨rfl,q3⟩;have Q3:=O (xI.out _ _ _ F1.out q3);clear q3 abt xI
  go_wp2_with fail
  go_ret
  exact ⟨rfl,by rw [HAA.out];exact Q3.out⟩
 ·have hx1:decide (XX=0)=false:=by simpa using hx0
  obtain ⟨HAA,Q3⟩:=aN (HA2.out hx0) (xI.out _ _ _ F1.out (HT2.out hx0));clear hd HKT d0 d1 d2 k1 aks akm aqd HT2 HA HA2 HS2 xI
  go_wp2_with fail
  go_ret
  exact ⟨rfl,by rw [HAA.out];exact Q3.out⟩
end
end
theorem aex:(Tryz.prog.info? TPR).map (fun i=>(i.zero,i.size,i.bytes))=some (some (.pointer none),1,8):=by kernel_rfl
def NewAt (w:World)(n z k:Nat)(W:World):Prop:=
 ∃(lab:Nat→Option Nat) (pv:Nat→Nat) (A:Option Addr) (c:Nat),(∀b j,lab b=some j→w.heap.size≤b∧b<W.heap.size)∧lab z=some 0∧Blk W z qK #[.slice A k c,.slice none 0 0,.slice none 0 0]∧Own W (part lab 1) TPR (.slice A k c) ((List.range k).map fun i=> .pointer (some ⟨pv i,0,none⟩))∧(∀i,i<k→RAt W (part lab (10+i)) (pv i) (gy i n) 0)∧Fr No w W
theorem NewAt.next {w wr W1 W' :World}{n z k p:Nat}{lab:Nat→Option Nat}{pv:Nat→Nat}{A:Option Addr}{c:Nat}{F:Nat→Prop}{v' :Value}
  (h1:∀b j,lab b=some j→w.heap.size≤b∧b<wr.heap.size) (h2:lab z=some 0) (h3:Blk wr z qK #[.slice A k c,.slice none 0 0,.slice none 0 0]) (h4:Own wr (part lab 1) TPR (.slice A k c) ((List.range k).map fun i=> .pointer (some ⟨pv i,0,none⟩)))
  (h5:∀i,i<k→RAt wr (part lab (10+i)) (pv i) (gy i n) 0) (h6:Fr No w wr) (hr:RAt W1 F p (gy k n) 0) (hF:∀i,F i→wr.heap.size≤i) (hf:Fr No wr W1)
  (ha:gV (W1.alloc (.cells #[.pointer (some ⟨p,0,none⟩)] TPR)) 0 TPR (.slice A k c) k ((List.range k).map fun i=> .pointer (some ⟨pv i,0,none⟩)) [.pointer (some ⟨p,0,none⟩)] 1 v' W'):
  NewAt w n z (k+1) (W'.setCell ⟨z,0,none⟩ v')∧Fr (part lab 1) W1 W' :=by
 classical
 have hf2:Fr No wr (W1.alloc (.cells #[.pointer (some ⟨p,0,none⟩)] TPR)):=hf.alloc _;obtain ⟨o1,f1⟩:=(h4.au hf2).appended (by simp) rfl ha;obtain ⟨pv2,hpv2⟩:∃pv2:Nat→Nat,pv2=fun i=>if i=k then p else pv i:=⟨_,rfl⟩
 rw [show ((List.range k).map (fun i=>Value.pointer (some (⟨pv i,0,none⟩:Addr)))++[Value.pointer (some ⟨p,0,none⟩)])=(List.range (k+1)).map (fun i=>Value.pointer (some (⟨pv2 i,0,none⟩:Addr))) from by
  rw [List.range_succ,List.map_append,List.map_singleton,hpv2];simp only [if_true]
  congr 1
  apply List.map_congr_left
  intro i hi;rw [if_neg (by have:=List.mem_range.1 hi;omega)]] at o1
 have hlen:((List.range (k+1)).map (fun i=>Value.pointer (some (⟨pv2 i,0,none⟩:Addr)))).length=k+1:=by simp
 obtain ⟨A',c',hv,-⟩:=o1.form;rw [hlen] at hv;subst hv;have hsz:=hf.size;have hsa:(W1.alloc (.cells #[.pointer (some ⟨p,0,none⟩)] TPR)).heap.size=W1.heap.size+1:=by simp
 have hs1:=f1.size;have hzl:=(h1 z 0 h2).2;have hrl:=hr.lt;rw [hsa] at hs1;obtain ⟨dW,hlab⟩:∃dW:Nat→Option Nat,dW=fun b=>if b<wr.heap.size then lab b else if F b then some (10+k) else if b=W1.heap.size+1∧b<W'.heap.size then some 1 else none:=⟨_,rfl⟩
 have ho:∀b,b<wr.heap.size→dW b=lab b:=fun b hb=>by rw [hlab];exact if_pos hb
 have hold:∀j b,lab b=some j→dW b=some j:=fun j b hb=>by rw [ho b (h1 b j hb).2];exact hb
 have hfz:Fr (fun b=>b=z) W' (W'.setCell ⟨z,0,none⟩ (.slice A' (k+1) c')):=gU W' ⟨z,0,none⟩ _;have hlt2:∀b j,dW b=some j→w.heap.size≤b∧b<(W'.setCell ⟨z,0,none⟩ (.slice A' (k+1) c')).heap.size:=fun b j hb=>by
  have h6s:=h6.size;have h7s:=hfz.size;rw [hlab] at hb;simp only at hb
  split at hb
  ·have:=h1 b j hb
   omega
  ·split at hb
   ·have:=hrl b ‹_›
    omega
   ·split at hb
    ·omega
    ·cases hb
 have hne:∀i j:Nat,i≠j→∀b,lab b=some i→¬lab b=some j:=fun i j hij b hi hj=>by
  rw [hi] at hj;injection hj with hj;exact hij hj
 have hFn:∀b,F b→¬part lab 1 b:=fun b hb hh=>by
  have:=hF b hb;have:=(h1 b 1 hh).2
  omega
 refine ⟨⟨dW,pv2,A',c',hlt2,hold 0 z h2,?_,?_,fun i hi=> ?_,?_⟩,((aj W1 _).mono (G:=part lab 1) fun _ h=>h.elim).trans f1 fun b hb=> .inl hb⟩
 ·have hz2:Blk W' z qK #[.slice A k c,.slice none 0 0,.slice none 0 0]:=(h3.fr hf2 id).fr f1 (hne 0 1 oy z h2)
  exact (hz2.aC 0 _).conv rfl
 ·refine ((o1.fr hfz fun b hb e=> ?_).mono fun b hb=> ?_)
  ·rcases hb with hb|⟨hb,-⟩
   ·exact hne 1 0 oy b hb (e▸h2)
   ·rw [hsa] at hb;omega
  ·rcases hb with hb|⟨hb,hb2⟩
   ·exact hold 1 b hb
   ·rw [hsa] at hb
    show dW b=some 1
    rw [hlab];simp only;rw [if_neg oy,if_neg (fun hh=>by have:=hrl b hh;omega),if_pos ⟨hb,hb2⟩]
 ·by_cases hik:i=k
  ·subst hik
   have hpi:pv2 i=p:=by rw [hpv2];exact if_pos rfl
   rw [hpi];refine ((((hr.au (aj _ _)).fr f1 hFn).fr hfz fun b hb e=> ?_).mono (fun b hb=> ?_) fun b hb=>(hlt2 b _ hb).2)
   ·have:=hF b hb
    omega
   ·show dW b=some (10+i)
    rw [hlab];simp only;rw [if_neg (by have:=hF b hb;omega),if_pos hb]
  ·have hpi:pv2 i=pv i:=by rw [hpv2];exact if_neg hik
   rw [hpi];exact ((((h5 i oy).au hf2).fr f1 (hne (10+i) 1 oy)).fr hfz (fun b hb e=>hne (10+i) 0 oy b hb (e▸h2))).mono (hold (10+i)) fun b hb=>(hlt2 b _ hb).2
 ·have hfin:Fr No w W' :=(h6.ah hf2).trans f1 fun b hb=> .inr (h1 b 1 hb).1
  exact hfin.trans hfz fun b hb=> .inr (by have:=h1 z 0 h2;omega)
theorem NewAt.done {w W:World}{n z:Nat}(h:NewAt w n z n W)(h0:0<n)(h5:n≤5):∃lab pv,QAt W lab z pv (wG n) 0∧(∀b j,lab b=some j→w.heap.size≤b)∧Fr No w W:=by
 obtain ⟨lab,pv,A,c,a1,a2,a3,a4,a5,a6⟩:=h;refine ⟨lab,pv,⟨fun b k hb=>(a1 b k hb).2,⟨A,c,.slice none 0 0,.slice none 0 0,[],a3,a4,?_,aA.nil _ _ _ _⟩,a2,fun i hi=>a5 i hi,tF.new h0 h5⟩,fun b j hb=>(a1 b j hb).1,a6⟩;exact ⟨aA.nil _ _ _ _,rfl,(fun i m x hm=>by cases hm),bn (show (2:Nat)≠3 by omega),fun b hb=>(a1 b 2 hb).2,fun b hb=>(a1 b 3 hb).2⟩
set_option maxHeartbeats 8000000 in
theorem aps (n:Nat)(w:World)(h5:n≤5)(hodd:n % 2=1):Calls Tryz.prog 97 #[.int .i64 (n:Int)] w fun e w' =>∃z lab pv,e= .returned (.tuple #[.pointer (some ⟨z,0,none⟩),.int .i64 0])∧QAt w' lab z pv (wG n) 0∧(∀b j,lab b=some j→w.heap.size≤b)∧Fr No w w' :=by
 obtain ⟨i1,hi1,hz0,hz1,hz2⟩:=info_parts aex;obtain ⟨W0,hW0⟩:∃W0,W0=w.alloc (.cells #[.slice none 0 0,.slice none 0 0,.slice none 0 0] qK):=⟨_,rfl⟩;obtain ⟨z,hz⟩:∃z,z=w.heap.size:=⟨_,rfl⟩;have hb0:Blk W0 z qK #[.slice none 0 0,.slice none 0 0,.slice none 0 0]:=by rw [hz,hW0];exact Blk.new _ _ _
 have hzw:w.heap.size≤z:=by rw [hz];exact Nat.le_refl _
 have hstart:NewAt w n z 0 W0:=by
  refine ⟨fun b=>if b=z then some 0 else none,fun _=>0,none,0,fun b j hb=> ?_,if_pos rfl,hb0,Own.nil _ _ _,fun i hi=>absurd hi (Nat.not_lt_zero i),by rw [hW0];exact aj _ _⟩
  by_cases h:b=z
  ·rw [h];exact ⟨hzw,hb0.lt⟩
  ·simp only [if_neg h] at hb
   cases hb
 clear hzw;have hgl:=hb0.lt;clear hb0;obtain ⟨HW0,HZ,nM⟩:=bC hW0 hz hstart;clear hW0 hz hstart
 go_in
 go_upto_region 2 with fail
 rw [←HW0.out,←HZ.out];clear HW0
 go_wp2_with fail
 go_loopw [5] (fun i wr=>∃k:Nat,k≤n∧i= .int .i64 k∧NewAt w n z k wr) (fun i _=>n-(intOf i).toNat)
 case atStart=>exact ⟨0,Nat.zero_le _,rfl,nM.out⟩
 case round=>
  obtain ⟨k,hk,rfl,hrel⟩:=hrel
  by_cases hlt:k<n
  ·have b1:decide (k<n)=true:=decide_eq_true hlt
   have b2:decide ((k:Int)<(n:Int))=true:=dtt;have hnew:=apv k n wr hlt h5 hodd;obtain ⟨lab,pv,A,c,a1,a2,a3,a4,a5,a6⟩:=hrel;have hcap:=a4.cap;have hzl:=(a1 z 0 a2).2;have hz0' :=fun W (hf:Fr No wr W)=>(⟨(a3.fr hf fun h=>h).cell 0,(a3.fr hf fun h=>h).frozen 0⟩:W.cell? ⟨z,0,none⟩=some (.slice A k c)∧W.frozen? ⟨z,0,none⟩=false);have hz1' :=fun W W' (hf:Fr No wr W) (hf' :Fr (part lab 1) W W')=>(⟨((a3.fr hf fun h=>h).fr hf' (bn oy z a2)).cell 0,((a3.fr hf fun h=>h).fr hf' (bn oy z a2)).frozen 0⟩:W'.cell? ⟨z,0,none⟩=some (.slice A k c)∧W'.frozen? ⟨z,0,none⟩=false);have hown:=fun W (hf:Fr No wr W)=>(a4.au hf).1;have hnext:=fun W1 W' p F v' hr hF hf ha=>NewAt.next (w:=w) (W1:=W1) (W' :=W') (p:=p) (F:=F) (v' :=v') a1 a2 a3 a4 a5 a6 hr hF hf ha;clear a1 a2 a3 a4 a5 a6;simp only [List.length_map,List.length_range] at hown;have au8:=O hnew;have au3 :=O hz0';have au1 :=O hz1';obtain ⟨HOWN,lJ⟩:=aN hown hnext;clear hnew hz0' hz1' hown hnext
   go_wp2_with fail
   refine au8.out.mono ?_;rintro e w1 ⟨p,F,rfl,r1,r2,r3⟩;obtain ⟨z1,y1⟩:=au3.out _ r3;have hnx:=O fun W' v' ha=>lJ.out w1 W' p F v' r1 r2 r3 ha;have R3:=O r3;have asy:=nll hzl r3.size;clear r1 r2 r3 lJ au3 au8
   go_wp2_with (at_builtin;refine bN _ rfl (.tmp 32) (.tmp 34) _ rfl 0 TPR i1 _ 8 Tryz.underlying241 hi1 hz0 hz1 hz2 rfl (.slice A k c) k ((List.range k).map fun i=> .pointer (some ⟨pv i,0,none⟩)) rfl (HOWN.out _ (R3.out.alloc _)) (w1.heap.size+1) (some ⟨w1.heap.size,0,none⟩) 1 1 [.pointer (some ⟨p,0,none⟩)] rfl (fun h=>by cases h) (Rd.new w1 _ TPR rfl) rfl (fun u hu=>by simp at hu;subst hu;rfl) mxl oy (Nat.zero_le _) ?_)
   intro v1 w2 happ;obtain ⟨A4,c4,rfl,n4⟩:=ay happ.1;clear n4;obtain ⟨t9,f9⟩:=hnx.out w2 _ happ;obtain ⟨x9,y9⟩:=au1.out _ _ R3.out f9;have ax6:=nll asy f9.size;have T9:=O t9;clear happ t9 f9 hnx au1 HOWN R3 z1 y1
   go_wp2_with fail
   go_roundw
   case rel=>exact ⟨k+1,by omega,by go_num,T9.out⟩
   case measure=>simp [intOf];omega
  ·obtain rfl:k=n:=by omega
   have b1:decide (k<k)=false:=by simp
   have hk0:((k:Int) == 0)=false:=by simp;omega
   have T9:=O (hrel.done oy h5);clear hrel
   go_wp2_with fail
   go_ret2
   obtain ⟨lab,pv,t1,t2,t3⟩:=T9.out;exact ⟨z,lab,pv,rfl,t1,t2,t3⟩
end Go.Proofs.YtodkhcbjpodgeaaGreat
