/-
  The reference's quorum in memory, as the program's.
-/
import Derived.Test.YtjnfmfmglehmbaaGreatQ49
import Derived.Test.YtjnfmfmglehmbaaGreatQ29
namespace Go.Proofs.YtjnfmfmglehmbaaGreat
open Go.ChangeShapes Go.WideShapes Go.ChangeAt Go.RowKit
set_option linter.unusedVariables false
set_option maxRecDepth 100000
set_option maxHeartbeats 4000000
section
abbrev je:TypeId:=66
abbrev rT:TypeId:=28
theorem bR.mono {w:World}{F G:Nat→Prop}{p n:Nat}{r:Rs}(h:bR w F p r n)(hFG:∀i,F i→G i)(hG:∀i,G i→i<w.heap.size):bR w G p r n:=by
 obtain ⟨j,Fj,V,X,M,bs,xs,ms,h1,h2,h3,h4,h5,h6,h7,h8⟩:=h;exact ⟨j,Fj,V,X,M,bs,xs,ms,h1,hFG p h2,h3,fun i hi=>hFG i (h4 i hi),h5,hG,⟨h7.ov.mono hFG,h7.ox.mono hFG,h7.om.mono hFG,h7.av,h7.ax,h7.am,h7.xm,h7.sv,h7.sx,h7.one⟩,h8⟩
structure eD (w:World) (lab:Nat→Option Nat) (z:Nat) (pv:Nat→Nat) (q:Qs) (n:Nat):Prop where
 lt:∀b k,lab b=some k→b<w.heap.size
 mem:∃Ar cr NV DV vs,Blk w z je #[.slice Ar q.n cr,NV,DV]∧Own w (part lab 1) rT (.slice Ar q.n cr) ((List.range q.n).map fun i=> .pointer (some ⟨pv i,0,none⟩))∧gB w (part lab 2) (part lab 3) NV q.net vs∧bG w (part lab 4) 49 9 DV q.done.length (gV q.done)
 z0:lab z=some 0
 jN:∀i,i<q.n→bR w (part lab (10+i)) (pv i) (q.rs i) n
 ok:lu q
section
variable {w w' :World}{lab:Nat→Option Nat}{z n m:Nat}{pv:Nat→Nat}{q:Qs}{F:Nat→Prop}
theorem eD.fr (h:eD w lab z pv q n)(hf:Fr F w w')(hd:∀b,F b→lab b=none):eD w' lab z pv q n:=by
 have hn:∀k b,lab b=some k→¬F b:=fun k b hb hF=>by rw [hd b hF] at hb;cases hb
 obtain ⟨Ar,cr,NV,DV,vs,h1,h2,h3,h4⟩:=h.mem;exact ⟨fun b k hb=>nll (h.lt b k hb) hf.size,⟨Ar,cr,NV,DV,vs,h1.fr hf (hn 0 z h.z0),h2.fr hf (hn 1),h3.fr hf (hn 2) (hn 3),h4.fr' hf fun g hg=>hn 4 g (h4.2 g hg)⟩,h.z0,fun i hi=>(h.jN i hi).fr hf (hn (10+i)),h.ok⟩
theorem eD.ak (h:eD w lab z pv q n)(hf:Fr No w w'):eD w' lab z pv q n:=h.fr hf fun _ hi=>hi.elim
theorem eD.more (h:eD w lab z pv q n)(hn:n≤m):eD w lab z pv q m:=⟨h.lt,h.mem,h.z0,fun i hi=>(h.jN i hi).more hn,h.ok⟩
def gU (w:World)(lab:Nat→Option Nat)(z:Nat)(pv:Nat→Nat)(q:Qs)(n:Nat)(w' :World):Prop:=
 ∃lab',eD w' lab' z pv q n∧(∀b,b<w.heap.size→lab' b=lab b)∧Fr (fun b=>lab b≠none) w w'
theorem eD.self (h:eD w lab z pv q n):gU w lab z pv q n w:=⟨lab,h,fun _ _=>rfl,Fr.refl _ _⟩
theorem eD.still (h:eD w lab z pv q n)(hf:Fr No w w'):gU w lab z pv q n w' :=⟨lab,h.ak hf,fun _ _=>rfl,hf.mono fun _ hi=>hi.elim⟩
theorem gU.then {w1:World}{q1:Qs}(h:gU w lab z pv q1 m w1)(hlt:∀b k,lab b=some k→b<w.heap.size)(h2:∀aZ,eD w1 aZ z pv q1 m→gU w1 aZ z pv q n w'):gU w lab z pv q n w' :=by
 obtain ⟨aZ,a1,b1,c1⟩:=h;obtain ⟨dG,a2,b2,c2⟩:=h2 aZ a1;refine ⟨dG,a2,fun b hb=>(b2 b (nll hb c1.size)).trans (b1 b hb),c1.trans c2 fun b hb=> ?_⟩
 rcases Nat.lt_or_ge b w.heap.size with hl|hl
 ·rw [b1 b hl] at hb
  exact .inl hb
 ·exact .inr hl
theorem gU.after {w1:World}(hf:Fr No w w1)(hlt:∀b k,lab b=some k→b<w.heap.size)(h:gU w1 lab z pv q n w'):gU w lab z pv q n w' :=by
 obtain ⟨aZ,a1,b1,c1⟩:=h;exact ⟨aZ,a1,fun b hb=>b1 b (nll hb hf.size),(hf.mono (G:=fun b=>lab b≠none) fun _ hi=>hi.elim).trans c1 fun b hb=> .inl hb⟩
theorem gU.more (h:gU w lab z pv q n w')(hn:n≤m):gU w lab z pv q m w' :=by
 obtain ⟨aZ,a1,b1⟩:=h;exact ⟨aZ,a1.more hn,b1⟩
theorem gU.quiet {w1:World}(h:gU w lab z pv q n w1)(hf:Fr No w1 w'):gU w lab z pv q n w' :=by
 obtain ⟨aZ,a1,b1,c1⟩:=h;exact ⟨aZ,a1.ak hf,b1,c1.trans hf fun _ hi=>hi.elim⟩
theorem eD.turned (h:eD w lab z pv q n){i:Nat}(hi:i<q.n){x:Rs×List Ms}{e:Ending}(hnm:n≤m)(hc:aH w (part lab (10+i)) (pv i) x m e w')(h1:x.1.id=(q.rs i).id)(h2:x.1.n=(q.rs i).n):
  ∃A c lab' Gs vs,e= .returned (.slice A x.2.length c)∧eD w' lab' z pv (q.put i (x.1,[])) m∧gB w' Gs (part lab' 3) (.slice A x.2.length c) x.2 vs∧(∀b,Gs b→lab' b=none)∧(∀b,b<w.heap.size→lab' b=lab b)∧Fr (part lab (10+i)) w w' :=by
 obtain ⟨A,c,F',G,e1,⟨Gs,Ge,vs,m1,m2,m3⟩,r1,k1,k2,k3,fr⟩:=hc;have hsz:=fr.size;have ai8:=r1.lt;have hap:∀k b,k≠10+i→lab b=some k→¬part lab (10+i) b:=fun k b hk hb hp=>by
  have hp:lab b=some (10+i):=hp;rw [hb] at hp;injection hp with hp;exact hk hp
 have hlab:∀b k,lD w lab F' Ge i b=some k→b<w'.heap.size:=fun b k hb=>by
  rcases mW hb with ⟨q1,-⟩|⟨-,q2,-⟩|⟨-,-,q2,-⟩
  ·omega
  ·exact ai8 b q2
  ·exact m1.ltE b q2
 have hold:∀k b,lab b=some k→part (lD w lab F' Ge i) k b:=fun k b hb=>by
  show lD w lab F' Ge i b=some k
  rw [pG (h.lt b k hb)];exact hb
 have al9:∀b,Gs b→lD w lab F' Ge i b=none:=fun b hb=>by
  cases hq:lD w lab F' Ge i b with
  |none=>rfl
  |some k=>
   have hbn:=k2 b (m2 b hb)
   rcases mW hq with ⟨q1,-⟩|⟨-,q2,-⟩|⟨-,-,q2,-⟩
   ·omega
   ·exact absurd (m2 b hb) (k3 b q2)
   ·exact absurd q2 (m1.apart b hb)
 have aoa:∀j k:Nat,j≠k→∀b,part (lD w lab F' Ge i) j b→¬part (lD w lab F' Ge i) k b:=fun j k hjk b hj hk=>by
  have hj:lD w lab F' Ge i b=some j:=hj;have hk:lD w lab F' Ge i b=some k:=hk;rw [hj] at hk;injection hk with hk;exact hjk hk
 obtain ⟨Ar,cr,NV,DV,ns,b1,b2,b3,b4⟩:=h.mem;obtain ⟨o1,o2,o3⟩:=h.ok.each i hi;refine ⟨A,c,lD w lab F' Ge i,Gs,vs,e1,⟨hlab,⟨Ar,cr,NV,DV,ns,b1.fr fr (hap 0 z oy h.z0),(b2.fr fr fun b hb=>hap 1 b oy hb).mono (hold 1),?_,(b4.fr' fr fun g hg=>hap 4 g oy (b4.2 g hg)).mono (hold 4)⟩,hold 0 z h.z0,fun j hj=> ?_,?_⟩,?_,al9,fun b hb=>pG hb,fr⟩
 ·exact (b3.fr fr (fun b hb=>hap 2 b oy hb) (fun b hb=>hap 3 b oy hb)).same (hold 2) (hold 3) (aoa 2 3 oy) (fun b hb=>hlab b 2 hb) (fun b hb=>hlab b 3 hb)
 ·show bR w' _ (pv j) (upd q.rs i x.1 j) m
  by_cases hji:j=i
  ·subst hji
   rw [oU];refine r1.mono (fun b hb=> ?_) (fun b hb=>hlab b _ hb)
   rcases k1 b hb with hq|hq
   ·exact hold _ b hq
   ·show lD w lab F' Ge j b=_
    unfold lD;rw [if_neg oy,if_pos hb]
  ·rw [upd_ne hji]
   exact (((h.jN j hj).fr fr fun b hb=>hap (10+j) b oy hb).more hnm).mono (hold (10+j)) (fun b hb=>hlab b _ hb)
 ·exact h.ok.put hi r1.ok h1 h2 (fun m hm=>by cases hm)
 ·refine m1.wide (fun b hb=> ?_) (fun b hb hp=> ?_) (fun b hb=>hlab b 3 hb)
  ·have hbn:=k2 b (m3 b hb)
   show lD w lab F' Ge i b=_
   unfold lD;rw [if_neg oy,if_neg (fun hh=>k3 b hh (m3 b hb)),if_pos hb]
  ·have hp:lD w lab F' Ge i b=some 3:=hp
   rw [al9 b hb] at hp
   cases hp
end
end
section
section
variable {w w' :World}{lab lab' :Nat→Option Nat}{z n m:Nat}{pv:Nat→Nat}{q:Qs}{F:Nat→Prop}
theorem eD.oD {Ar:Option Addr}{cr:Nat}{NV NV' DV:Value}{rJ :List Ms}{vs' :List Value}(h:eD w lab z pv q n)(h1:Blk w z je #[.slice Ar q.n cr,NV,DV])
  (h2:Own w (part lab 1) rT (.slice Ar q.n cr) ((List.range q.n).map fun i=> .pointer (some ⟨pv i,0,none⟩))) (h4:bG w (part lab 4) 49 9 DV q.done.length (gV q.done))
  (hf:Fr (fun b=>lab b=some 0∨lab b=some 2) w w') (ho:∀b,b<w.heap.size→lab' b=lab b) (hn:∀b k,w.heap.size≤b→lab' b=some k→k=2∧b<w'.heap.size)
  (hz:Blk w' z je #[.slice Ar q.n cr,NV',DV]) (hm:gB w' (part lab' 2) (part lab' 3) NV' rJ vs') (hok:lu {q with net:=rJ}):eD w' lab' z pv {q with net:=rJ} n:=by
 have hd:∀k,k≠0→k≠2→∀b,part lab k b→¬(lab b=some 0∨lab b=some 2):=fun k k0 k2 b hb hh=>by
  rcases hh with hh|hh
  ·exact aG k0 b hb hh
  ·exact aG k2 b hb hh
 have hold:∀k b,lab b=some k→part lab' k b:=fun k b hb=>by
  show lab' b=some k
  rw [ho b (h.lt b k hb)];exact hb
 have hlt:∀b k,lab' b=some k→b<w'.heap.size:=fun b k hb=>by
  rcases Nat.lt_or_ge b w.heap.size with hl|hl
  ·exact nll hl hf.size
  ·exact (hn b k hl hb).2
 refine ⟨hlt,⟨Ar,cr,NV',DV,vs',hz,(h2.fr hf (hd 1 oy oy)).mono (hold 1),hm,(h4.fr' hf fun g hg=>hd 4 oy oy g (h4.2 g hg)).mono (hold 4)⟩,hold 0 z h.z0,fun i hi=> ?_,hok⟩;exact ((h.jN i hi).fr hf (hd (10+i) oy oy)).mono (hold (10+i)) (fun b hb=>hlt b _ hb)
theorem eD.wU {Ar:Option Addr}{cr:Nat}{NV DV DV' :Value}{done' :List En}{vs:List Value}(h:eD w lab z pv q n)(h1:Blk w z je #[.slice Ar q.n cr,NV,DV])
  (h2:Own w (part lab 1) rT (.slice Ar q.n cr) ((List.range q.n).map fun i=> .pointer (some ⟨pv i,0,none⟩))) (h3:gB w (part lab 2) (part lab 3) NV q.net vs)
  (hf:Fr (fun b=>lab b=some 0) w w') (ho:∀b,b<w.heap.size→lab' b=lab b) (hn:∀b k,w.heap.size≤b→lab' b=some k→k=4∧b<w'.heap.size)
  (hz:Blk w' z je #[.slice Ar q.n cr,NV,DV']) (hm:bG w' (part lab' 4) TEq 9 DV' done'.length (gV done')) (hok:lu {q with done:=done'}):eD w' lab' z pv {q with done:=done'} n:=by
 have hd:∀k,k≠0→∀b,part lab k b→¬lab b=some 0:=fun k k0 b hb hh=>aG k0 b hb hh;have hold:∀k b,lab b=some k→part lab' k b:=fun k b hb=>by
  show lab' b=some k
  rw [ho b (h.lt b k hb)];exact hb
 have hlt:∀b k,lab' b=some k→b<w'.heap.size:=fun b k hb=>by
  rcases Nat.lt_or_ge b w.heap.size with hl|hl
  ·exact nll hl hf.size
  ·exact (hn b k hl hb).2
 refine ⟨hlt,⟨Ar,cr,NV,DV',vs,hz,(h2.fr hf (hd 1 oy)).mono (hold 1),(h3.fr hf (hd 2 oy) (hd 3 oy)).same (hold 2) (hold 3) (aG oy) (fun b hb=>hlt b 2 hb) (fun b hb=>hlt b 3 hb),hm⟩,hold 0 z h.z0,fun i hi=> ?_,hok⟩;exact ((h.jN i hi).fr hf (hd (10+i) oy)).mono (hold (10+i)) (fun b hb=>hlt b _ hb)
theorem eD.ahg {Ar:Option Addr}{cr:Nat}{NV NVx DV v' :Value}{rJ :List Ms}{vs' :List Value}{W:World}(h:eD w lab z pv q n)(h1:Blk w z je #[.slice Ar q.n cr,NV,DV])
  (h2:Own w (part lab 1) rT (.slice Ar q.n cr) ((List.range q.n).map fun i=> .pointer (some ⟨pv i,0,none⟩))) (h4:bG w (part lab 4) 49 9 DV q.done.length (gV q.done))
  (hf:Fr (fun b=>b=z) w W) (hz:Blk W z je #[.slice Ar q.n cr,NVx,DV]) (ho:bG W (fun i=>w.heap.size≤i) TMs 9 v' rJ.length (msV rJ vs')) (hl:vs'.length=rJ.length)
  (he:∀(i:Nat) m x,rJ[i]? =some m→vs'[i]? =some x→Ent w (part lab 3) x m.es) (hok:lu {q with net:=rJ}):
  ∃lab',eD (W.setCell ⟨z,1,none⟩ v') lab' z pv {q with net:=rJ} n∧(∀b,b<w.heap.size→lab' b=lab b)∧(∀b k,w.heap.size≤b→lab' b=some k→k=2)∧Fr (fun b=>lab b=some 0) w (W.setCell ⟨z,1,none⟩ v'):=by
 have hzl:=h.lt z 0 h.z0;have hsz:=hf.size;have hfz:Fr (fun b=>b=z) W (W.setCell ⟨z,1,none⟩ v'):=dx W ⟨z,1,none⟩ v';have hs2:=hfz.size;have hf2:Fr (fun b=>b=z) w (W.setCell ⟨z,1,none⟩ v'):=hf.trans hfz fun b hb=> .inl hb;have hf0:Fr (fun b=>lab b=some 0) w (W.setCell ⟨z,1,none⟩ v'):=hf2.mono fun b hb=>by rw [hb];exact h.z0
 obtain ⟨lab',hlab⟩:∃lab' :Nat→Option Nat,lab' =fun b=>if b<w.heap.size then lab b else if v'.ownBlock=some b then some 2 else none:=⟨_,rfl⟩
 have ho' :∀b,b<w.heap.size→lab' b=lab b:=fun b hb=>by rw [hlab];exact if_pos hb
 have hob:∀g,v'.ownBlock=some g→w.heap.size≤g:=ho.2;have hol:∀g,v'.ownBlock=some g→g<W.heap.size:=fun g hg=>(ho.1.lt g hg).2;have hn:∀b k,w.heap.size≤b→lab' b=some k→k=2∧b<(W.setCell ⟨z,1,none⟩ v').heap.size:=fun b k hb hk=>by
  rw [hlab] at hk;simp only at hk;rw [if_neg oy] at hk
  split at hk
  ·rename_i hh
   injection hk with hk;have:=hol b hh;exact ⟨hk.symm,by omega⟩
  ·cases hk
 have hlt' :∀b k,lab' b=some k→b<(W.setCell ⟨z,1,none⟩ v').heap.size:=fun b k hb=>by
  rcases Nat.lt_or_ge b w.heap.size with hlb|hlb
  ·omega
  ·exact (hn b k hlb hb).2
 have hold:∀k b,lab b=some k→part lab' k b:=fun k b hb=>by
  show lab' b=some k
  rw [ho' b (h.lt b k hb)];exact hb
 have hown:=ho.fr' hfz fun g hg e=>by have:=hob g hg;omega
 have an6:gB (W.setCell ⟨z,1,none⟩ v') (part lab' 2) (part lab' 3) v' rJ vs' :=
  ⟨⟨hown.1,fun g hg=>by
   show lab' g=some 2
   have:=hob g hg;rw [hlab];simp only;rw [if_neg oy,if_pos hg]⟩,hl,fun i m x hm hx=>((he i m x hm hx).fr hf2 fun b hb e=>aG (show (3:Nat)≠0 by omega) b hb (e▸h.z0)).mono (hold 3),aG (show (2:Nat)≠3 by omega),fun b hb=>hlt' b 2 hb,fun b hb=>hlt' b 3 hb⟩
 exact ⟨lab',h.oD h1 h2 h4 (hf0.mono fun b hb=> .inl hb) ho' hn ((hz.aU 1 _).conv rfl) an6 hok,ho',fun b k hb hk=>(hn b k hb hk).1,hf0⟩
theorem eD.afx {Ar:Option Addr}{cr:Nat}{NV DV v' :Value}{vs:List Value}{W W' :World}{e:En}(h:eD w lab z pv q n)(h1:Blk w z je #[.slice Ar q.n cr,NV,DV])
  (h2:Own w (part lab 1) rT (.slice Ar q.n cr) ((List.range q.n).map fun i=> .pointer (some ⟨pv i,0,none⟩))) (h3:gB w (part lab 2) (part lab 3) NV q.net vs) (h4:bG w (part lab 4) 49 9 DV q.done.length (gV q.done))
  (hf:Fr No w W) (ha:bN W 0 49 9 DV q.done.length (gV q.done) e.cells 1 v' W') (hlt:q.done.length<4096):
  ∃lab',eD (W'.setCell ⟨z,2,none⟩ v') lab' z pv {q with done:=q.done++[e]} n∧(∀b,b<w.heap.size→lab' b=lab b)∧(∀b k,w.heap.size≤b→lab' b=some k→k=4)∧Fr (fun b=>lab b=some 0∨lab b=some 4) w (W'.setCell ⟨z,2,none⟩ v')∧Fr (part lab 4) w W' :=by
 obtain ⟨o1,f1⟩:=(h4.ak hf).appended ha;have hsz:=hf.size;have hsz2:=f1.size;have hzl:=h.lt z 0 h.z0;obtain ⟨lab',hlab⟩:∃lab' :Nat→Option Nat,lab' =fun b=>if b<w.heap.size then lab b else if b=W.heap.size∧b<W'.heap.size then some 4 else none:=⟨_,rfl⟩
 have ho:∀b,b<w.heap.size→lab' b=lab b:=fun b hb=>by rw [hlab];exact if_pos hb
 have hn:∀b k,w.heap.size≤b→lab' b=some k→k=4∧b<W'.heap.size:=fun b k hb hk=>by
  rw [hlab] at hk;simp only at hk;rw [if_neg oy] at hk
  split at hk
  ·rename_i hh
   injection hk with hk;exact ⟨hk.symm,hh.2⟩
  ·cases hk
 have hlt' :∀b k,lab' b=some k→b<W'.heap.size:=fun b k hb=>by
  rcases Nat.lt_or_ge b w.heap.size with hl|hl
  ·omega
  ·exact (hn b k hl hb).2
 have hold:∀k b,lab b=some k→part lab' k b:=fun k b hb=>by
  show lab' b=some k
  rw [ho b (h.lt b k hb)];exact hb
 have hfF:Fr (part lab 4) w W' :=(hf.mono (G:=part lab 4) fun _ hi=>hi.elim).trans f1 fun b hb=> .inl hb;have hfz:Fr (fun b=>b=z) W' (W'.setCell ⟨z,2,none⟩ v'):=dx W' ⟨z,2,none⟩ v';have hzs:=hfz.size;have hf2:Fr (fun b=>lab b=some 0∨lab b=some 4) w (W'.setCell ⟨z,2,none⟩ v'):=(hfF.mono fun b hb=> .inr hb).setCell (p:=⟨z,2,none⟩) (.inl (.inl h.z0)) _;have hz1:Blk W' z je #[.slice Ar q.n cr,NV,DV]:=h1.fr hfF (aG (show (0:Nat)≠4 by omega) z h.z0);have hd:∀k,k≠0→k≠4→∀b,part lab k b→¬(lab b=some 0∨lab b=some 4):=fun k k0 k4 b hb hh=>by
  rcases hh with hh|hh
  ·exact aG k0 b hb hh
  ·exact aG k4 b hb hh
 have hne:∀k,k≠0→∀b,part lab' k b→¬b=z:=fun k hk b hb e=>by
  have hb:lab' b=some k:=hb;rw [e,ho z hzl,h.z0] at hb;injection hb with hb;exact hk hb.symm
 have hlt2:∀b k,lab' b=some k→b<(W'.setCell ⟨z,2,none⟩ v').heap.size:=fun b k hb=>by have:=hlt' b k hb;omega
 have hdone:bG (W'.setCell ⟨z,2,none⟩ v') (part lab' 4) 49 9 v' (q.done++[e]).length (gV (q.done++[e])):=by
  rw [wB,List.length_append,List.length_singleton];refine (o1.fr' hfz fun g hg e=> ?_).mono fun b hb=> ?_
  ·rcases o1.2 g hg with hb|hb
   ·exact aG (show (4:Nat)≠0 by omega) g hb (e▸h.z0)
   ·omega
  ·rcases hb with hb|hb
   ·exact hold 4 b hb
   ·show lab' b=some 4
    rw [hlab];simp only;rw [if_neg oy,if_pos hb]
 refine ⟨lab',⟨hlt2,⟨Ar,cr,NV,v',vs,(hz1.aU 2 _).conv rfl,(h2.fr hf2 (hd 1 oy oy)).mono (hold 1),(h3.fr hf2 (hd 2 oy oy) (hd 3 oy oy)).same (hold 2) (hold 3) (aG oy) (fun b hb=>hlt2 b 2 hb) (fun b hb=>hlt2 b 3 hb),hdone⟩,hold 0 z h.z0,fun i hi=> ?_,⟨h.ok.pos,h.ok.five,h.ok.each,h.ok.net,h.ok.msgs,by simp;omega⟩⟩,ho,fun b k hb hk=>(hn b k hb hk).1,hf2,hfF⟩;exact ((h.jN i hi).fr hf2 (hd (10+i) oy oy)).mono (hold (10+i)) (fun b hb=>hlt2 b _ hb)
end
end
section
section
variable {w w' :World}{lab lab' :Nat→Option Nat}{z n m:Nat}{pv:Nat→Nat}{q:Qs}{F:Nat→Prop}
def kD (w:World)(lab:Nat→Option Nat)(z:Nat)(pv:Nat→Nat)(q:Qs)(n:Nat)(l:List Ms)(k:Nat)(W:World):Prop:=
 ∃lab',eD W lab' z pv {q with net:=sendAll q.net (l.take k)} n∧(∀b,b<w.heap.size→lab' b=lab b)∧(∀b j,w.heap.size≤b→lab' b=some j→j=2)∧Fr (fun b=>lab b=some 0) w W∧W.cell? ⟨z,0,none⟩=w.cell? ⟨z,0,none⟩
def ag1 (wr:World)(z:Nat)(Ar:Option Addr)(qn cr:Nat)(DV:Value)(ms:List Ms)(vs:List Value)(wx:World):Prop:=
 ∃A2 c2,Blk wx z je #[.slice Ar qn cr,.slice A2 ms.length c2,DV]∧Fr (fun b=>b=z) wr wx∧Rd wr wr.heap.size A2 (msV ms vs)∧(A2=none→ms.length=0)∧ms.length≤c2∧c2≤maxLen∧(∀b o,A2=some ⟨b,o,none⟩→b≠z)
theorem Rd.amd {V:World}{B b o k:Nat}{xs:List Value}(h:Rd V B (some ⟨b,o,none⟩) xs):Rd V B (some ⟨b,o+k,none⟩) (xs.drop k):=by
 rcases h with h|⟨b',o',e1,e2,e3⟩
 ·exact .inl (by rw [h];simp)
 ·simp only [Option.some.injEq,Addr.mk.injEq] at e1
  obtain ⟨rfl,rfl,-⟩:=e1;refine .inr ⟨b,o+k,rfl,e2,fun j hj=> ?_⟩;rw [List.length_drop] at hj;rw [Nat.add_assoc,e3 (k+j) oy,List.getElem_drop]
theorem ag1.less {wr:World}{Ar:Option Addr}{qn cr bn cn:Nat}{DV:Value}{ms:List Ms}{vs:List Value}{Gs Ge:Nat→Prop}(h1:Blk wr z je #[.slice Ar qn cr,.slice (some ⟨bn,0,none⟩) ms.length cn,DV])(h3:gB wr Gs Ge (.slice (some ⟨bn,0,none⟩) ms.length cn) ms vs)(hz:¬Gs z)(hl:0<ms.length):
  ag1 wr z Ar qn cr DV (ms.drop 1) (vs.drop 1) (wr.setCell ⟨z,1,none⟩ (.slice (some ⟨bn,0+9,none⟩) (ms.length-1) (cn-1))):=by
 have hcap:=h3.own.cap;have hrd:=h3.own.rd.amd (k:=9);have hd:=uy ms vs 1 h3.len;rw [Nat.one_mul] at hd;rw [hd] at hrd;refine ⟨_,cn-1,?_,dx wr ⟨z,1,none⟩ _,hrd,(fun h=>by cases h),by rw [List.length_drop];omega,by omega,fun b o e=> ?_⟩
 ·rw [List.length_drop]
  exact (h1.aU 1 _).conv rfl
 ·simp only [Option.some.injEq,Addr.mk.injEq] at e
  obtain ⟨rfl,-⟩:=e;intro e;exact hz (e▸h3.own.2 bn rfl)
theorem ag1.same {wr:World}{Ar:Option Addr}{qn cr:Nat}{A:Option Addr}{c:Nat}{DV:Value}{ms:List Ms}{vs:List Value}{Gs Ge:Nat→Prop}(h1:Blk wr z je #[.slice Ar qn cr,.slice A ms.length c,DV])(h3:gB wr Gs Ge (.slice A ms.length c) ms vs)(hz:¬Gs z):
  ag1 wr z Ar qn cr DV ms vs wr:=by
 have hcap:=h3.own.cap;obtain ⟨A',c',e,hn⟩:=h3.own.form;injection e with e1 e2 e3;subst e1 e3;refine ⟨A,c,h1,Fr.refl _ _,h3.own.rd,hn,hcap.1,hcap.2,fun b o e=> ?_⟩;intro eb;subst e eb;exact hz (h3.own.2 b rfl)
theorem kD.next {aZ:Nat→Option Nat}{wr W:World}{l:List Ms}{k:Nat}{m:Ms}{Q:Qs}{Ar:Option Addr}{cr:Nat}{NV NVx DV v' x:Value}{ns2:List Value}{jO:List Ms}
  (hl1:∀b,b<w.heap.size→aZ b=lab b) (hl2:∀b j,w.heap.size≤b→aZ b=some j→j=2) (hfr:Fr (fun b=>lab b=some 0) w wr)
  (h:eD wr aZ z pv Q n) (hz0:lab z=some 0) (hzc:wr.cell? ⟨z,0,none⟩=w.cell? ⟨z,0,none⟩) (h1:Blk wr z je #[.slice Ar Q.n cr,NV,DV])
  (h2:Own wr (part aZ 1) rT (.slice Ar Q.n cr) ((List.range Q.n).map fun i=> .pointer (some ⟨pv i,0,none⟩))) (h4:bG wr (part aZ 4) 49 9 DV Q.done.length (gV Q.done))
  (hx:Ent wr (part aZ 3) x m.es) (hto:fI Q.n m) (qI:∀m∈jO,fI Q.n m) (alp:jO.length<256) (hnl:ns2.length=jO.length) (hent:∀(i:Nat) m x,jO[i]? =some m→ns2[i]? =some x→Ent wr (part aZ 3) x m.es)
  (hnext:{Q with net:=jO++[m]}={q with net:=sendAll q.net (l.take (k+1))})
  (hf:Fr (fun b=>b=z) wr W) (hzb:Blk W z je #[.slice Ar Q.n cr,NVx,DV]) (ho:bG W (fun i=>wr.heap.size≤i) TMs 9 v' (jO.length+1) (msV jO ns2++m.cells x)):kD w lab z pv q n l (k+1) (W.setCell ⟨z,1,none⟩ v'):=by
 have hs1:=hfr.size;rw [←uw _ _ _ _ hnl] at ho;obtain ⟨dG,a1,a2,a3,a4⟩:=h.ahg (rJ :=jO++[m]) (vs' :=ns2++[x]) (v' :=v') h1 h2 h4 hf hzb (by rw [List.length_append,List.length_singleton];exact ho) (by simp [hnl]) (fun i m' x' hm hx' =>by
  rcases Nat.lt_or_ge i jO.length with hi|hi
  ·rw [List.getElem?_append_left hi] at hm
   rw [List.getElem?_append_left (by rw [hnl];exact hi)] at hx';exact hent i m' x' hm hx'
  ·rw [List.getElem?_append_right hi] at hm
   rw [List.getElem?_append_right (by rw [hnl];exact hi)] at hx';have hi0:i-jO.length=0:=by
    have:=(List.getElem?_eq_some_iff.1 hm).1
    simp at this;omega
   rw [hi0] at hm;rw [hnl,hi0] at hx'
   simp at hm hx'
   subst hm hx';exact hx) (h.ok.oD (by simp;omega) fun m' hm' =>by
  rcases List.mem_append.1 hm' with hm' |hm'
  ·exact qI m' hm'
  ·simp at hm';rw [hm'];exact hto)
 rw [hnext] at a1;refine ⟨dG,a1,fun b hb=>(a2 b oy).trans (hl1 b hb),fun b j hb hj=> ?_,hfr.trans a4 fun b hb=> ?_,?_⟩
 ·rcases Nat.lt_or_ge b wr.heap.size with hl|hl
  ·rw [a2 b hl] at hj
   exact hl2 b j hb hj
  ·exact a3 b j hl hj
 ·rcases Nat.lt_or_ge b w.heap.size with hl|hl
  ·rw [hl1 b hl] at hb
   exact .inl hb
  ·exact .inr hl
 ·rw [World.cell?_setCell_other _ _ _ _ (by simp),hzb.cell 0,←hzc,h1.cell 0]
  rfl
end
set_option maxHeartbeats 8000000 in
theorem ah7 {w:World}{lab:Nat→Option Nat}{z n:Nat}{pv:Nat→Nat}{q:Qs}(h:eD w lab z pv q n){l:List Ms}{A:Option Addr}{c:Nat}{vs:List Value}{Gs:Nat→Prop}(hl:gB w Gs (part lab 3) (.slice A l.length c) l vs)(hG:∀b,Gs b→lab b=none)(hto:∀m∈l,fI q.n m)(hll:l.length≤1000):
  Calls Tryz.prog 65 #[.pointer (some ⟨z,0,none⟩),.slice A l.length c] w fun e w' =>e= .returned (.tuple #[])∧kD w lab z pv q n l l.length w' :=by
 obtain ⟨i1,hi1,hz0,hz1,hz2⟩:=info_parts jY;have hstart:kD w lab z pv q n l 0 w:=⟨lab,h,fun _ _=>rfl,fun b j hb hj=>absurd (h.lt b j hj) oy,Fr.refl _ _,rfl⟩;have hlt:=h.lt;have hkeep:∀W,Fr (fun b=>lab b=some 0) w W→gB W Gs (part lab 3) (.slice A l.length c) l vs:=fun W hf=>hl.fr hf (fun b hb hh=>by rw [hG b hb] at hh;cases hh) (fun b hb hh=>aG (show (3:Nat)≠0 by omega) b hb hh);have hzl:=h.lt z 0 h.z0;have apo:=h.z0;clear h hl;obtain ⟨iw,yD,HTO,HLT,HG,aop⟩:=lG hstart hkeep hto hlt hG apo;clear hstart hkeep hto hlt hG apo
 go_in
 go_wp2_with fail
 go_loopw [4] (fun i wr=>∃k:Nat,k≤l.length∧i= .int .i64 k∧kD w lab z pv q n l k wr) (fun i _=>l.length-(intOf i).toNat)
 case atStart=>exact ⟨0,Nat.zero_le _,rfl,iw.out⟩
 case round=>
  obtain ⟨k,hk,rfl,hrel⟩:=hrel
  by_cases hlt:k<l.length
  case neg=>
   obtain rfl:k=l.length:=by omega
   have b1:decide (l.length<l.length)=false:=by simp
   have asl:=O hrel;clear hrel
   go_wp2_with fail
   go_end0
   exact ⟨rfl,asl.out⟩
  obtain ⟨aZ,hq,hl1,hl2,hfr,hzc⟩:=hrel;have b1:decide (k<l.length)=true:=by simpa using hlt
  have b2:decide ((k:Int)<(l.length:Int))=true:=by simp;omega
  have hlt2:(k:Int)<(l.length:Int):=by omega
  obtain ⟨m,hm⟩:∃m,l[k]? =some m:=⟨_,List.getElem?_eq_getElem hlt⟩;have nS:=HTO.out m (List.mem_of_getElem? hm);obtain ⟨bl,x,rfl,hbl,hGb,-,hxe,d0,d1,d2,d3,d4,d5,d6,d7,d8⟩:=(yD.out wr hfr).at_ hm;have hxe1:Ent wr (part aZ 3) x m.es:=hxe.lt.mono fun b hb=>by
   have h3:lab b=some 3:=hb.1
   show aZ b=some 3
   rw [hl1 b (HLT.out b 3 h3)];exact h3
  have ad2:bl≠z:=fun e=>by have h5:=HG.out bl hGb;rw [e,aop.out] at h5;cases h5
  have hsn:sendAll q.net (l.take (k+1))=eY (sendAll q.net (l.take k)) m:=by rw [List.take_add_one,hm,←oF];rfl
  obtain ⟨Ar,cr,NV,DV,ns,h1,h2,h3,h4⟩:=hq.mem;have jF:=hq.ok.net;have ald:=hq.lt z 0 hq.z0;have anz:¬part aZ 2 z:=fun hh=>aG (show (0:Nat)≠2 by omega) z hq.z0 hh;obtain ⟨An,cn,rfl,hnil⟩:=h3.own.form;obtain ⟨Q,hQ⟩:∃Q:Qs,Q={q with net:=sendAll q.net (l.take k)}:=⟨_,rfl⟩;have hnx:({q with net:=sendAll q.net (l.take (k+1))}:Qs)={Q with net:=eY Q.net m}:=by rw [hsn,hQ]
  have hQn:Q.n=q.n:=by rw [hQ]
  rw [←hQ] at hq h1 h2 h3 h4 jF hnil
  change gB wr (part aZ 2) (part aZ 3) (.slice An Q.net.length cn) Q.net ns at h3
  change Blk wr z je #[.slice Ar Q.n cr,.slice An Q.net.length cn,DV] at h1
  change Own wr (part aZ 1) rT (.slice Ar Q.n cr) ((List.range Q.n).map fun i=> .pointer (some ⟨pv i,0,none⟩)) at h2
  change bG wr (part aZ 4) 49 9 DV Q.done.length (gV Q.done) at h4
  change Q.net.length≤256 at jF
  rw [←hQn] at nS;have hone:∀u∈m.cells x,u.oneCell' =true:=sS m hxe1;have hnl:=h3.len;have z1:wr.cell? ⟨z,1,none⟩=some (.slice An Q.net.length cn):=h1.cell 1;have y1:=h1.frozen 1;have hcn:=h3.own.cap;unfold maxLen at hcn
  -- the net without its first message, where it is full
  obtain ⟨B,hB⟩:∃B:Bool,B=decide (256≤Q.net.length):=⟨_,rfl⟩;obtain ⟨jO,qI⟩:∃jO,jO=if B then Q.net.drop 1 else Q.net:=⟨_,rfl⟩
  obtain ⟨ns2,ai3⟩:∃ns2,ns2=if B then ns.drop 1 else ns:=⟨_,rfl⟩
  have hfull:B=true→ag1 wr z Ar Q.n cr DV jO ns2 (wr.setCell ⟨z,1,none⟩ (.slice (An.map fun a=>⟨a.block,a.off+9,a.spot⟩) (Q.net.length-1) (cn-1))):=fun hb=>by
   have uT:256≤Q.net.length:=by rw [hB] at hb;simpa using hb
   obtain ⟨bn,rfl,-⟩:=h3.own.head oy;rw [qI,ai3,if_pos hb,if_pos hb];exact ag1.less h1 h3 anz oy
  have hsp:256≤Q.net.length→∃bn,An=some ⟨bn,0,none⟩:=fun uT=>by
   obtain ⟨bn,rfl,-⟩:=h3.own.head oy;exact ⟨bn,rfl⟩
  have hpart:B=false→ag1 wr z Ar Q.n cr DV jO ns2 wr:=fun hb=>by
   rw [qI,ai3,if_neg (by rw [hb];simp),if_neg (by rw [hb];simp)];exact ag1.same h1 h3 anz
  have am7:ns2.length=jO.length:=by rw [qI,ai3];split<;>simp [hnl]
  have alp:jO.length<256:=by
   rw [qI]
   split
   ·rw [List.length_drop];omega
   ·rename_i hb
    rw [hB] at hb
    simp at hb
    omega
  have hsub:∀(i:Nat),jO[i]? =Q.net[i+(if B then 1 else 0)]?∧ns2[i]? =ns[i+(if B then 1 else 0)]? :=fun i=>by
   rw [qI,ai3]
   cases B<;>simp
  have alv:∀(i:Nat) m x,jO[i]? =some m→ns2[i]? =some x→Ent wr (part aZ 3) x m.es:=fun i m x hm hx=>h3.each _ m x ((hsub i).1.symm.trans hm) ((hsub i).2.symm.trans hx);have apq:∀m∈jO,fI Q.n m:=fun m hm=>hq.ok.msgs m (by
   rw [qI] at hm
   split at hm
   ·exact List.mem_of_mem_drop hm
   ·exact hm)
  have ahm:∀u∈msV jO ns2,u.oneCell' =true:=jC _ _ fun v hv=>h3.ah3 v (by
   rw [ai3] at hv
   split at hv
   ·exact List.mem_of_mem_drop hv
   ·exact hv)
  have ap3:=qA jO ns2 am7;have hsend:eY Q.net m=jO++[m]:=by
   unfold eY;rw [qI,hB]
   by_cases uT:256≤Q.net.length
   ·rw [if_pos uT,if_pos (by simpa using uT)]
   ·rw [if_neg uT,if_neg (by simpa using uT)]
  rw [hsend] at hnx;have hput:=fun W NVx v' hf hzb ho=>kD.next (w:=w) (lab:=lab) (q:=q) (l:=l) (k:=k) (W:=W) (NVx:=NVx) (v' :=v') (m:=m) (x:=x) (jO:=jO) (ns2:=ns2) hl1 hl2 hfr hq aop.out hzc h1 h2 h4 hxe1 nS apq alp am7 alv hnx.symm hf hzb ho;have hdm:∀V,Fr (fun b=>b=z) wr V→V.cell? ⟨bl,k*9,none⟩=some (.int .i64 m.kind)∧V.cell? ⟨bl,k*9+1,none⟩=some (.int .i64 m.from_)∧V.cell? ⟨bl,k*9+2,none⟩=some (.int .i64 m.to_)∧V.cell? ⟨bl,k*9+3,none⟩=some (.int .i64 m.term)∧V.cell? ⟨bl,k*9+4,none⟩=some (.int .i64 m.index)∧V.cell? ⟨bl,k*9+5,none⟩=some (.int .i64 m.prev)∧V.cell? ⟨bl,k*9+6,none⟩=some (.int .i64 m.commit)∧V.cell? ⟨bl,k*9+7,none⟩=some (.bool m.ok)∧V.cell? ⟨bl,k*9+8,none⟩=some (x):=fun V hV=>⟨(hV.cell (p:=⟨bl,k*9,none⟩) hbl fun e=>ad2 e).trans d0,(hV.cell (p:=⟨bl,k*9+1,none⟩) hbl fun e=>ad2 e).trans d1,(hV.cell (p:=⟨bl,k*9+2,none⟩) hbl fun e=>ad2 e).trans d2,(hV.cell (p:=⟨bl,k*9+3,none⟩) hbl fun e=>ad2 e).trans d3,(hV.cell (p:=⟨bl,k*9+4,none⟩) hbl fun e=>ad2 e).trans d4,(hV.cell (p:=⟨bl,k*9+5,none⟩) hbl fun e=>ad2 e).trans d5,(hV.cell (p:=⟨bl,k*9+6,none⟩) hbl fun e=>ad2 e).trans d6,(hV.cell (p:=⟨bl,k*9+7,none⟩) hbl fun e=>ad2 e).trans d7,(hV.cell (p:=⟨bl,k*9+8,none⟩) hbl fun e=>ad2 e).trans d8⟩;obtain ⟨kd,mf,mto,mt,ix,pr,cm,ok,es⟩:=m;obtain ⟨Ax,cx,rfl⟩:∃Ax cx,x= .slice Ax es.length cx:=(let ⟨A,c,e,_⟩:=hxe1;⟨A,c,e⟩);simp only at hdm;clear hxe hxe1 h2 h3 h4 hq hl1 hl2 hfr hzc d0 d1 d2 d3 d4 d5 d6 d7 d8 hm nS hsn hnx hQ hsend hsub apq alv jF hQn;have hb1:=h1
  clear h1;obtain ⟨wP,HDM,ajx,aju,HB1,ams,asx,asw,ao2,asu,ao1,HNL⟩:=gY hput hdm hfull hpart hb1 ahm ap3 am7 qI ai3 hnil hnl;obtain ⟨as6,zL,HSP⟩:=bP ad2 hone hsp;clear hput hdm hfull hpart hb1 ahm ap3 am7 qI ai3 hnil hnl ad2 hone hsp
  go_upto_region 3 with fail
  go_cut [16] (fun u wx=>u= .bool B∧wr=wx)
  case first=>
   have hBi:decide ((256:Int)≤(Q.net.length:Int))=B:=by rw [hB];by_cases uT:256≤Q.net.length<;>simp [uT]<;>omega
   go_wp2_with fail
   go_meet
   exact ⟨by simp [hB],rfl⟩
  obtain ⟨rfl,hwc⟩:=hcut;subst hwc
  go_upto_if 16 with fail
  go_cut [16] (fun _ wx=>ag1 wr z Ar Q.n cr DV jO ns2 wx)
  case first=>
   cases B
   ·clear hB
    go_wp2_with fail
    go_meet
    first|exact aju.out rfl|exact aju.out trivial
   ·have uT:256≤Q.net.length:=by simpa using hB.symm
    clear hB;obtain ⟨bn,hAn⟩:=HSP.out uT;subst hAn
    go_wp2_with fail
    go_meet
    first|exact ajx.out rfl|exact ajx.out trivial
  obtain ⟨A2,c2,m1,m2,m3,m4,m5,m6,m7⟩:=hcut;generalize wc=w6 at*;unfold maxLen at m6;have hrd:Rd w6 wr.heap.size A2 (msV jO ns2):=by
   rcases m3 with h|⟨b,o,e1,e2,e3⟩
   ·exact .inl h
   ·exact .inr ⟨b,o,e1,e2,fun j hj=>(m2.cell (p:=⟨b,o+j,none⟩) e2 (fun e=>m7 b o e1 e)).trans (e3 j hj)⟩
  have hs6:wr.heap.size≤w6.heap.size:=m2.size;have aq9:z<w6.heap.size:=by omega
  have atx:bl<w6.heap.size:=by omega
  have hes:=fun V (hV:Fr No w6 V)=>HDM.out V (m2.trans hV fun _ h=>h.elim);have uR:=fun V (hV:Fr No w6 V)=>(⟨(m1.fr hV id).cell 1,(m1.fr hV id).frozen 1⟩:V.cell? ⟨z,1,none⟩=some (.slice A2 jO.length c2)∧V.frozen? ⟨z,1,none⟩=false);have hjt:=fun V v' (hV:Fr No w6 V) ho=>wP.out V (.slice A2 jO.length c2) v' (m2.trans hV fun _ h=>h.elim) (m1.fr hV id) ho;obtain ⟨e0,e1,e2,e3,e4,e5,e6,e7,e8⟩:=hes w6 (Fr.refl _ _);obtain ⟨x3,y3⟩:=uR w6 (Fr.refl _ _);have hcap2:jO.length≤4096:=by omega
  have hnn:A2=none→jO.length=0:=m4;clear z1 y1 m1 m2 m3 m4 m7;clear wP HDM ajx aju HB1 asw ao2 asu ao1 HNL as6 HSP iw HTO HLT HG aop yD hB hcn anz;obtain ⟨HRD,HES,abf,HJT,HNN⟩:=jr hrd hes uR hjt hnn;clear hrd hes uR hjt hnn
  go_upto_region 5 with fail
  go_region_law
   (first
   |(refine bf _ (by rfl) (.tmp 26) (.tmp 30) _ (by rfl) 0 TMs i1 _ 9 88 Tryz.underlying63 hi1 hz0 hz1 hz2 rfl dcd (.slice (some ⟨_,0,none⟩) 0 0) 0 [] (by rfl) (aip (by first|(refine dM _ _ _ _ ?_;simp;done)|exact Blk.fr (F:=No) (Blk.new w6 TMs #[]) frx id|exact Blk.fr (F:=No) (dM (w6.alloc (.cells #[.int .i64 kd,.int .i64 mf,.int .i64 mto,.int .i64 mt,.int .i64 ix,.int .i64 pr,.int .i64 cm,.bool ok,.slice Ax es.length cx] TMs)) (w6.heap.size+1) TMs #[] (by simp)) frx id)).1 wr.heap.size A2 jO.length c2 (msV jO ns2) (by rfl) HNN.out (HRD.out.ak fry hs6) asx.out ams.out mxl oy (Nat.zero_le _) ?_;intro v1 w1 happ;obtain ⟨o1,f1b,f1⟩:=bG.app1 (w:=w6) fry (by simp) (by first|(refine dM _ _ _ _ ?_;simp;done)|exact Blk.fr (F:=No) (Blk.new w6 TMs #[]) frx id|exact Blk.fr (F:=No) (dM (w6.alloc (.cells #[.int .i64 kd,.int .i64 mf,.int .i64 mto,.int .i64 mt,.int .i64 ix,.int .i64 pr,.int .i64 cm,.bool ok,.slice Ax es.length cx] TMs)) (w6.heap.size+1) TMs #[] (by simp)) frx id) happ;obtain ⟨A4,c4,rfl,n4⟩:=o1.form;have O1:=O o1;have F1B:=O f1b;obtain ⟨e0,e1,e2,e3,e4,e5,e6,e7,e8⟩:=HES.out _ f1;have hl1:=f1.size;clear n4 happ o1 f1b)
   |(refine bf _ (by rfl) (.tmp 31) (.tmp 36) _ (by rfl) 0 TMs i1 _ 9 88 Tryz.underlying63 hi1 hz0 hz1 hz2 rfl dcd (.slice A4 jO.length c4) jO.length (msV jO ns2) (by rfl) (O1.out.ak frx).1 _ (some ⟨_,0,none⟩) 1 1 (Ms.cells ⟨kd,mf,mto,mt,ix,pr,cm,ok,es⟩ (.slice Ax es.length cx)) (by rfl) (fun h=>by cases h) (acs (by first|(refine dM _ _ _ _ ?_;simp;done)|exact Blk.fr (Blk.fr (F:=No) (dM (w6.alloc (.cells #[] TMs)) (w6.heap.size+1) TMs #[.int .i64 kd,.int .i64 mf,.int .i64 mto,.int .i64 mt,.int .i64 ix,.int .i64 pr,.int .i64 cm,.bool ok,.slice Ax es.length cx] (by simp)) frx id) F1B.out (by simp)|exact Blk.fr (Blk.fr (F:=No) (Blk.new w6 TMs #[.int .i64 kd,.int .i64 mf,.int .i64 mto,.int .i64 mt,.int .i64 ix,.int .i64 pr,.int .i64 cm,.bool ok,.slice Ax es.length cx]) frx id) F1B.out (by simp))) rfl (by simp [Ms.cells,Value.oneCell']) mxl oy (Nat.zero_le _) ?_;intro v2 w2 happ;obtain ⟨o2,f2⟩:=(O1.out.ak frx).aT (B:=w6.heap.size) (Fr.size (F:=No) fry) happ;have f3:Fr No w6 w2:=Fr.aA fry f2 (fun _ hi=>hi);obtain ⟨A5,c5,rfl,n5⟩:=o2.form;obtain ⟨x3,y3⟩:=abf.out _ f3;have HJ9:=O (HJT.out _ _ f3 (o2.mono fun i hi=>Nat.le_trans hs6 hi));clear happ o2 f2 n5))
  all_goals
   go_wp2_with fail
   go_roundw
   case rel=>exact ⟨k+1,by omega,by go_num,HJ9.out⟩
   case measure=>simp [intOf];omega
end
theorem bG.aon {V W w1:World}{B:Nat}{e:TypeId}{size:Nat}{xs ys:List Value}{m k:Nat}{v v1:Value}(h:bG V (fun i=>B≤i) e size v m xs)(hf:Fr No V W)(hB:B≤V.heap.size)(happ:bN W 0 e size v m xs ys k v1 w1):
  bG w1 (fun i=>B≤i) e size v1 (m+k) (xs++ys)∧Fr (fun i=>B≤i) V w1:=by
 obtain ⟨h1,h2⟩:=(h.ak hf).appended happ;have hs:=hf.size;exact ⟨h1.mono fun i hi=>by rcases hi with hi|hi<;>omega,(hf.mono fun _ h=>h.elim).trans h2 fun i hi=> .inl hi⟩
set_option maxHeartbeats 8000000 in
theorem ab6 {w:World}{lab:Nat→Option Nat}{z n:Nat}{pv:Nat→Nat}{q:Qs}(h:eD w lab z pv q n)(i:Nat)(hi:i<q.net.length):
  Calls Tryz.prog 66 #[.pointer (some ⟨z,0,none⟩),.int .i64 (i:Int)] w fun e w' =>e= .returned (.tuple #[])∧∃lab',eD w' lab' z pv (q.remove i) n∧(∀b,b<w.heap.size→lab' b=lab b)∧(∀b k,w.heap.size≤b→lab' b=some k→k=2)∧Fr (fun b=>lab b=some 0) w w' :=by
 obtain ⟨i1,hi1,hz0,hz1,hz2⟩:=info_parts jY;obtain ⟨Ar,cr,NV,DV,ns,h1,h2,h3,h4⟩:=h.mem;obtain ⟨An,cn,rfl,-⟩:=h3.own.form;obtain ⟨bn,rfl,hbl,hb2,-⟩:=h3.own.head oy;have hcap:=h3.own.cap;have uT:=h.ok.net;have hrd:=h3.own.rd;have hlen:=h3.len;have rd1:Rd w w.heap.size (some ⟨bn,0,none⟩) (msV (q.net.take i) (ns.take i)):=by rw [←yZ _ _ _ hlen];exact hrd.take (i*9)
 have rd2:Rd w w.heap.size (some ⟨bn,(i+1)*9,none⟩) (msV (q.net.drop (i+1)) (ns.drop (i+1))):=by
  rw [←uy _ _ _ hlen];have hz:=hrd.amd (k:=(i+1)*9);rw [Nat.zero_add] at hz;exact hz
 have hl1:(msV (q.net.take i) (ns.take i)).length=i*9:=by rw [qA _ _ (by simp [hlen]),List.length_take];congr 1;omega
 have hl2:(msV (q.net.drop (i+1)) (ns.drop (i+1))).length=(q.net.length-(i+1))*9:=by rw [qA _ _ (by simp [hlen]),List.length_drop]
 have ho1:∀u∈msV (q.net.take i) (ns.take i),u.oneCell' =true:=jC _ _ fun v hv=>h3.ah3 v (List.mem_of_mem_take hv);have ho2:∀u∈msV (q.net.drop (i+1)) (ns.drop (i+1)),u.oneCell' =true:=jC _ _ fun v hv=>h3.ah3 v (List.mem_of_mem_drop hv);have her:q.net.eraseIdx i=q.net.take i++q.net.drop (i+1):=List.eraseIdx_eq_take_drop_succ _ _;have aqc:ns.eraseIdx i=ns.take i++ns.drop (i+1):=List.eraseIdx_eq_take_drop_succ _ _;have hput:=fun W v' (hf:Fr No w W) (ho:bG W (fun b=>w.heap.size≤b) TMs 9 v' (i+(q.net.length-(i+1))) (msV (q.net.take i) (ns.take i)++msV (q.net.drop (i+1)) (ns.drop (i+1))))=>h.ahg (rJ :=q.net.eraseIdx i) (vs' :=ns.eraseIdx i) (W:=W) (v' :=v') h1 h2 h4 (hf.mono fun _ h=>h.elim) (h1.fr hf fun h=>h) (by
   rw [aqc,her,sU _ _ _ _ (by simp [hlen]),List.length_append,List.length_take,List.length_drop,Nat.min_eq_left oy];exact ho) (by rw [List.length_eraseIdx,List.length_eraseIdx,hlen]) (fun j m x hm hx=>by
   rw [List.getElem?_eraseIdx] at hm hx
   split at hm
   ·rw [if_pos ‹_›] at hx
    exact h3.each j m x hm hx
   ·rw [if_neg ‹_›] at hx
    exact h3.each (j+1) m x hm hx) (h.ok.remove i)
 have uR:=fun V (hV:Fr No w V)=>(⟨(h1.fr hV id).cell 1,(h1.fr hV id).frozen 1⟩:V.cell? ⟨z,1,none⟩=some (.slice (some ⟨bn,0,none⟩) q.net.length cn)∧V.frozen? ⟨z,1,none⟩=false);obtain ⟨x3,y3⟩:=uR w (Fr.refl _ _);have hzl:=h1.lt;have hi2:(i:Int)<(q.net.length:Int):=by omega
 have hw1:IntKind.i64.wrap ((i:Int)+1)=(i:Int)+1:=IntWalk.i64_in _ oy;have hw2:((i:Int)+1).toNat=i+1:=by omega
 unfold maxLen at hcap;have hk0:i≤cn:=by omega
 change ∀W v',Fr No w W→_→∃lab',eD _ lab' z pv (q.remove i) n∧_ at hput
 obtain ⟨A2,hA2⟩:∃A2:Option Addr,A2=(if cn=i+1 then some ⟨bn,0,none⟩ else some ⟨bn,(i+1)*9,none⟩):=⟨_,rfl⟩;have rd3:Rd w w.heap.size A2 (msV (q.net.drop (i+1)) (ns.drop (i+1))):=by
  rw [hA2]
  split
  ·refine .inl (List.eq_nil_of_length_eq_zero ?_)
   rw [hl2]
   omega
  ·exact rd2
 have hn2:A2=none→q.net.length-(i+1)=0:=fun h=>by rw [hA2] at h;split at h<;>cases h
 have hA3:=hA2.symm;have hb1:0≤(i:Int)+1:=by omega
 have hb2' :(i:Int)+1≤(q.net.length:Int):=by omega
 clear hA2 rd2;generalize q.remove i=q' at*;generalize hnl:q.net.length=nl at*;clear h h1 h2 h3 h4 hrd hlen her aqc hnl;obtain ⟨RD1,RD3,HN2,HL1,HL2,HO1,HO2,wP,abf⟩:=aap rd1 rd3 hn2 hl1 hl2 ho1 ho2 hput uR;clear rd1 rd3 hn2 hl1 hl2 ho1 ho2 hput uR
 go_in
 go_wp2_with fail
 go_region_law
  (first
  |(refine bf _ (by rfl) (.tmp 5) (.tmp 11) _ (by rfl) 0 TMs i1 _ 9 88 Tryz.underlying63 hi1 hz0 hz1 hz2 rfl dcd (.slice (some ⟨_,0,none⟩) 0 0) 0 [] (by rfl) (aip (by first|(refine dM _ _ _ _ ?_;simp;done)|exact Blk.fr (F:=No) (Blk.new w TMs #[]) frx id)).1 w.heap.size (some ⟨bn,0,none⟩) i cn (msV (q.net.take i) (ns.take i)) (by rfl) (fun h=>by cases h) (RD1.out.ak fry (Nat.le_refl _)) HL1.out HO1.out mxl oy (Nat.zero_le _) ?_;intro v1 w1 happ;obtain ⟨o1,f1b,f1⟩:=bG.app1 (w:=w) fry (by simp) (by first|(refine dM _ _ _ _ ?_;simp;done)|exact Blk.fr (F:=No) (Blk.new w TMs #[]) frx id) happ;obtain ⟨A4,c4,rfl,n4⟩:=o1.form;have O1:=O o1;obtain ⟨x3,y3⟩:=abf.out _ f1;have arl:=f1.size;clear n4 happ o1 f1b)
  |(refine bf _ (by rfl) (.tmp 12) (.tmp 19) _ (by rfl) 0 TMs i1 _ 9 88 Tryz.underlying63 hi1 hz0 hz1 hz2 rfl dcd (.slice A4 i c4) i (msV (q.net.take i) (ns.take i)) (by rfl) (O1.out.ak frx).1 w.heap.size A2 (nl-(i+1)) (cn-(i+1)) (msV (q.net.drop (i+1)) (ns.drop (i+1))) (by rfl) HN2.out (RD3.out.ak fry (Nat.le_refl _)) HL2.out HO2.out mxl oy (Nat.zero_le _) ?_;intro v2 w2 happ;obtain ⟨o2,f2⟩:=O1.out.aon frx arl happ;have f3:Fr No w w2:=Fr.aA f1 f2 (fun _ hi=>hi);obtain ⟨A5,c5,rfl,n5⟩:=o2.form;obtain ⟨x3,y3⟩:=abf.out _ f3;have HJ9:=O (wP.out _ _ f3 o2);clear happ o2 f2 n5))
 all_goals
  go_wp2_with fail
  go_end0
  exact ⟨rfl,HJ9.out⟩
section
section
variable {w w' :World}{lab lab' :Nat→Option Nat}{z n m p:Nat}{pv:Nat→Nat}{q:Qs}{r:Rs}{F:Nat→Prop}
theorem bR.ahz (h:bR w F p r n):∃j A c,p<w.heap.size∧j<w.heap.size∧r.js.log.length≤c∧c≤maxLen∧Ent w F (.slice A r.js.log.length c) r.js.log∧∀W G,Fr G w W→(∀i,F i→¬G i)→W.cell? ⟨p,0,none⟩=some (.pointer (some ⟨j,0,none⟩))∧W.cell? ⟨p,3,none⟩=some (.int .i64 r.role)∧W.cell? ⟨p,4,none⟩=some (.int .i64 (r.commit:Int))∧W.cell? ⟨j,1,none⟩=some (.int .i64 r.js.term)∧W.cell? ⟨j,3,none⟩=some (.slice A r.js.log.length c):=by
 obtain ⟨j,Fj,V,X,M,bs,xs,ms,h1,h2,⟨d,ys,k,rs,hj,-⟩,h4,-⟩:=h;obtain ⟨A,c,Fd,b1,b2,b3,-⟩:=hj.open_;have hc:=b3.cap;refine ⟨j,A,c,h1.lt,b1.lt,hc.1,hc.2,(Ent.iW b3).mono h4,fun W G hf hd=> ?_⟩;have g:=h1.fr hf (hd p h2);have k:=b1.fr hf (hd j (h4 j b2));exact ⟨g.cell 0,g.cell 3,g.cell 4,k.cell 1,k.cell 3⟩
theorem eD.ade (h:eD w lab z pv q n):eD (w.setCell ⟨z,2,none⟩ (.slice none 0 0)) lab z pv {q with done:=[]} n:=by
 obtain ⟨Ar,cr,NV,DV,vs,h1,h2,h3,h4⟩:=h.mem;have hf:Fr (fun b=>lab b=some 0) w (w.setCell ⟨z,2,none⟩ (.slice none 0 0)):=(dx w ⟨z,2,none⟩ _).mono fun b hb=>by
  have hb:b=z:=hb;rw [hb];exact h.z0
 exact h.wU h1 h2 h3 hf (fun _ _=>rfl) (fun b k hb hk=>absurd (h.lt b k hk) oy) ((h1.aU 2 _).conv rfl) (bG.nil _ _ _ _) ⟨h.ok.pos,h.ok.five,h.ok.each,h.ok.net,h.ok.msgs,by simp⟩
def mG (w:World)(lab:Nat→Option Nat)(z:Nat)(pv:Nat→Nat)(q:Qs)(n:Nat)(k:Nat)(W:World):Prop:=
 ∃lab',eD W lab' z pv {q with done:=iR q.rs q.done k} n∧(∀b,b<w.heap.size→lab' b=lab b)∧(∀b j,w.heap.size≤b→lab' b=some j→j=4)∧Fr (fun b=>lab b=some 0∨lab b=some 4) w W
def kE (wr:World)(aZ:Nat→Option Nat)(z:Nat)(pv:Nat→Nat)(Q:Qs)(n:Nat)(LL:List Lg)(j:Nat)(V:World):Prop:=
 ∃dG,eD V dG z pv {Q with done:=(LL.take j).map (·.e)} n∧(∀b,b<wr.heap.size→dG b=aZ b)∧(∀b i,wr.heap.size≤b→dG b=some i→i=4)∧Fr (fun b=>aZ b=some 0∨aZ b=some 4) wr V
theorem kE.next {wr V W W' :World}{aZ dG:Nat→Option Nat}{Q:Qs}{LL:List Lg}{j:Nat}{x:Lg}{Ar:Option Addr}{cr:Nat}{NV DV v' :Value}{vs:List Value}
  (h:eD V dG z pv {Q with done:=(LL.take j).map (·.e)} n) (ho:∀b,b<wr.heap.size→dG b=aZ b) (hn:∀b i,wr.heap.size≤b→dG b=some i→i=4) (hfr:Fr (fun b=>aZ b=some 0∨aZ b=some 4) wr V)
  (h1:Blk V z je #[.slice Ar Q.n cr,NV,DV]) (h2:Own V (part dG 1) rT (.slice Ar Q.n cr) ((List.range Q.n).map fun i=> .pointer (some ⟨pv i,0,none⟩))) (h3:gB V (part dG 2) (part dG 3) NV Q.net vs)
  (h4:bG V (part dG 4) 49 9 DV j (gV ((LL.take j).map (·.e)))) (hj:j<LL.length) (hL:LL.length≤4096) (hx:LL[j]? =some x) (hf:Fr No V W) (ha:bN W 0 49 9 DV j (gV ((LL.take j).map (·.e))) x.e.cells 1 v' W'):
  kE wr aZ z pv Q n LL (j+1) (W'.setCell ⟨z,2,none⟩ v')∧W'.cell? ⟨z,2,none⟩=some DV∧W'.frozen? ⟨z,2,none⟩=false:=by
 have hl:((LL.take j).map (·.e)).length=j:=by rw [List.length_map,List.length_take];omega
 have hs1:=hfr.size;obtain ⟨ant,a1,a2,a3,a4,a5⟩:=h.afx (e:=x.e) h1 h2 h3 (show bG V (part dG 4) 49 9 DV ((LL.take j).map (·.e)).length (gV ((LL.take j).map (·.e))) by rw [hl];exact h4) hf (show bN W 0 49 9 DV ((LL.take j).map (·.e)).length (gV ((LL.take j).map (·.e))) x.e.cells 1 v' W' by rw [hl];exact ha) (show ((LL.take j).map (·.e)).length<4096 by omega);have hsn:(LL.take (j+1)).map (·.e)=(LL.take j).map (·.e)++[x.e]:=by rw [List.take_add_one,hx,Option.toList_some,List.map_append,List.map_singleton]
 have hz:=h1.fr a5 (aG (show (0:Nat)≠4 by omega) z h.z0);refine ⟨⟨ant,by rw [hsn];exact a1,fun b hb=>(a2 b oy).trans (ho b hb),fun b i hb hi=> ?_,hfr.trans a4 fun b hb=> ?_⟩,hz.cell 2,hz.frozen 2⟩
 ·rcases Nat.lt_or_ge b V.heap.size with hl|hl
  ·rw [a2 b hl] at hi
   exact hn b i hb hi
  ·exact a3 b i hl hi
 ·rcases Nat.lt_or_ge b wr.heap.size with hl|hl
  ·rw [ho b hl] at hb
   exact .inl hb
  ·exact .inr hl
theorem kE.done {wr V:World}{aZ:Nat→Option Nat}{Q:Qs}{LL:List Lg}{k C:Nat}(h:kE wr aZ z pv Q n LL C V)(hl1:∀b,b<w.heap.size→aZ b=lab b)(hl2:∀b j,w.heap.size≤b→aZ b=some j→j=4)(hfr:Fr (fun b=>lab b=some 0∨lab b=some 4) w wr)
  (hnext:{Q with done:=(LL.take C).map (·.e)}={q with done:=iR q.rs q.done (k+1)}):mG w lab z pv q n (k+1) V:=by
 obtain ⟨dG,a1,a2,a3,a4⟩:=h;rw [hnext] at a1;have hs1:=hfr.size;refine ⟨dG,a1,fun b hb=>(a2 b oy).trans (hl1 b hb),fun b j hb hj=> ?_,hfr.trans a4 fun b hb=> ?_⟩
 ·rcases Nat.lt_or_ge b wr.heap.size with hl|hl
  ·rw [a2 b hl] at hj
   exact hl2 b j hb hj
  ·exact a3 b j hl hj
 ·rcases Nat.lt_or_ge b w.heap.size with hl|hl
  ·rw [hl1 b hl] at hb
   exact .inl hb
  ·exact .inr hl
end
set_option maxHeartbeats 8000000 in
theorem ah8 {w:World}{lab:Nat→Option Nat}{z n:Nat}{pv:Nat→Nat}{q:Qs}(h:eD w lab z pv q n):Calls Tryz.prog 68 #[.pointer (some ⟨z,0,none⟩)] w fun e w' =>e= .returned (.tuple #[])∧mG w lab z pv q n q.n w' :=by
 obtain ⟨i1,hi1,hy0,hy1,hy2⟩:=info_parts uM;have hstart:mG w lab z pv q n 0 w:=⟨lab,h,fun _ _=>rfl,fun b j hb hj=>absurd (h.lt b j hj) oy,Fr.refl _ _⟩;have h5:=h.ok.five;clear h;have iw:=O hstart;clear hstart
 go_in
 go_wp2_with fail
 go_loopw [2] (fun i wr=>∃k:Nat,k≤q.n∧i= .int .i64 k∧mG w lab z pv q n k wr) (fun i _=>q.n-(intOf i).toNat)
 case atStart=>exact ⟨0,Nat.zero_le _,rfl,iw.out⟩
 case round=>
  obtain ⟨k,hk,rfl,hrel⟩:=hrel;have hrl:=hrel;obtain ⟨aZ,hq,hl1,hl2,hfr⟩:=hrel;obtain ⟨Q,hQ⟩:∃Q:Qs,Q={q with done:=iR q.rs q.done k}:=⟨_,rfl⟩;rw [←hQ] at hq;have hQn:Q.n=q.n:=by rw [hQ]
  have hQr:Q.rs k=q.rs k:=by rw [hQ]
  have hQd:Q.done=iR q.rs q.done k:=by rw [hQ]
  obtain ⟨Ar,cr,NV,DV,ns,h1,h2,h3,h4⟩:=hq.mem;obtain ⟨Ad,cd,rfl,-⟩:=h4.form;have hd4:=hq.ok.done;have hcr:=h2.cap;obtain ⟨br,rfl,hbl,hb1,hb⟩:=iV h2 hq.ok.pos;have z0:wr.cell? ⟨z,0,none⟩=some (.slice (some ⟨br,0,none⟩) Q.n cr):=h1.cell 0;have z2:wr.cell? ⟨z,2,none⟩=some (.slice Ad Q.done.length cd):=h1.cell 2;have y2:=h1.frozen 2;have hzl:=h1.lt;unfold maxLen at hcr;rw [hQn] at z0 hcr
  by_cases hlt:k<q.n
  case neg=>
   obtain rfl:k=q.n:=by omega
   have b1:decide (q.n<q.n)=false:=by simp
   clear hq h1 h2 h3 h4 hb hl1 hl2 hfr hQ hQn hQr hQd;have HRL:=O hrl;clear hrl
   go_wp2_with fail
   go_end0
   exact ⟨rfl,HRL.out⟩
  have b1:decide (k<q.n)=true:=by simpa using hlt
  have b2:decide ((k:Int)<(q.n:Int))=true:=by simp;omega
  have hlt2:(k:Int)<(q.n:Int):=by omega
  have rk:wr.cell? ⟨br,k,none⟩=some (.pointer (some ⟨pv k,0,none⟩)):=by
   rw [(hb k (by simpa [hQn] using hlt)).1]
   simp
  have hrep:=hq.jN k (by rw [hQn];exact hlt);have adw:=hrep.ok;obtain ⟨jj,Al,cl,hpl,hjl,hlc,hlm,hent,ale⟩:=hrep.ahz;have aqe:∀i,part aZ (10+k) i→¬(aZ i=some 0∨aZ i=some 4):=fun i hi hh=>by
   rcases hh with hh|hh
   ·exact aG (show 10+k≠0 by omega) i hi hh
   ·exact aG (show 10+k≠4 by omega) i hi hh
  have hvw:=fun W (hf:Fr (fun b=>aZ b=some 0∨aZ b=some 4) wr W)=>ale W _ hf aqe;have hen:=fun W (hf:Fr (fun b=>aZ b=some 0∨aZ b=some 4) wr W)=>hent.fr hf aqe;obtain ⟨p0,-,p4,-,j3⟩:=hvw wr (Fr.refl _ _);rw [hQr] at adw hlc;have hcl:=adw.com;have lK:=adw.log.few;unfold maxLen at hlm;have hnx:({q with done:=iR q.rs q.done (k+1)}:Qs)={Q with done:=if (q.rs k).commit≤Q.done.length then Q.done else (((q.rs k).js.log.take (q.rs k).commit).map (·.e))}:=by
   rw [hQd,hQ]
   rfl
  simp only [hQr] at hvw hen p0 p4 j3 hnx;have hnil:=hq.ade;clear hrep adw ale hent h2 h3 h4 hb;generalize (q.rs k).js.log=LL at*;generalize (q.rs k).commit=C at*
  by_cases hle:C≤Q.done.length
  ·have t1:decide (C≤Q.done.length)=true:=by simpa using hle
   have t2:decide ((C:Int)≤(Q.done.length:Int))=true:=by simp;omega
   rw [if_pos hle] at hnx;have T9:=O (show ∀V,Fr No wr V→mG w lab z pv q n (k+1) V from fun V hV=>⟨aZ,by rw [hnx];exact hq.ak hV,hl1,hl2,hfr.trans hV fun _ h=>h.elim⟩);clear hq h1 hl1 hl2 hfr hnx hvw hen hnil hQ hQn hQr hQd hrl
   go_wp2_with fail
   go_quiet (fail)
   go_wp2_with fail
   go_roundw
   case rel=>exact ⟨k+1,by omega,by go_num,T9.out _ (by repeat (with_reducible first|exact Fr.refl _ _|refine Fr.drew ?_|refine Fr.drewN ?_ _))⟩
   case measure=>simp [intOf];omega
  ·have t1:decide (C≤Q.done.length)=false:=by simpa using hle
   have t2:decide ((C:Int)≤(Q.done.length:Int))=false:=by simp;omega
   rw [if_neg hle] at hnx;have hdn:=fun V (hh:kE wr aZ z pv Q n LL C V)=>hh.done (k:=k) hl1 hl2 hfr hnx.symm;have aqi:∀V,Fr No wr V→kE wr aZ z pv Q n LL 0 (V.setCell ⟨z,2,none⟩ (.slice none 0 0)):=fun V hV=>⟨aZ,by simpa using (hq.ak hV).ade,fun _ _=>rfl,fun b i hb hi=>absurd (hq.lt b i hi) oy,(hV.mono fun _ h=>h.elim).setCell (p:=⟨z,2,none⟩) (.inl (.inl hq.z0)) _⟩;have apm:=fun V (hV:Fr No wr V)=>(⟨(h1.fr hV fun h=>h).cell 2,(h1.fr hV fun h=>h).frozen 2⟩:V.cell? ⟨z,2,none⟩=some (.slice Ad Q.done.length cd)∧V.frozen? ⟨z,2,none⟩=false);clear hq h1 hl1 hl2 hfr hnx hnil hQ hQn hQr hQd hrl;obtain ⟨HVW,HEN,HDN,aq0,aqt⟩:=jr hvw hen hdn aqi apm;clear hvw hen hdn aqi apm
   go_wp2_with fail
   go_quiet (fail)
   have K1:=O ((Fr.refl No wr).drewN nq);have hbe:=aq0.out _ K1.out;obtain ⟨z2',y2'⟩:=aqt.out _ K1.out;have hsz1:=K1.out.size;generalize wr.drewN nq=w1 at*;clear aq0 aqt z2 y2;have adu:z<w1.heap.size:=by omega
   have HBE:=O hbe;clear hbe;generalize wr=wo at*
   go_wp2_with fail
   go_loopw [4] (fun o V=>∃j:Nat,j≤C∧o= .int .i64 j∧kE wo aZ z pv Q n LL j V) (fun o _=>C-(intOf o).toNat)
   case atStart=>exact ⟨0,Nat.zero_le _,rfl,HBE.out⟩
   case round=>
    clear HBE z2' y2' rk p0 p4 j3 z0 K1 adu;obtain ⟨j,hj,rfl,hrel⟩:=hrel;have hrl:=hrel;obtain ⟨dG,hq2,ho2,hn2,hfr2⟩:=hrel;obtain ⟨p0,-,p4,-,j3⟩:=HVW.out wr hfr2;have hsz2:=hfr2.size;have ate:pv k<wr.heap.size:=by omega
    have ati:jj<wr.heap.size:=by omega
    by_cases hlj:j<C
    case neg=>
     obtain rfl:j=C:=by omega
     have d1:decide (j<j)=false:=by simp
     have T9:=O (HDN.out _ hrl);clear hrl hq2 ho2 hn2 hfr2 HDN
     go_wp2_with fail
     go_roundw
     case rel=>exact ⟨k+1,by omega,by go_num,T9.out⟩
     case measure=>simp [intOf];omega
    have d1:decide (j<C)=true:=by simpa using hlj
    have d2:decide ((j:Int)<(C:Int))=true:=by simp;omega
    have arn:(j:Int)<(LL.length:Int):=by omega
    obtain ⟨bb,off,x,rfl,hx,hcs⟩:=(HEN.out wr hfr2).at_ (i:=j) oy;obtain ⟨e0,e1,e2,e3,e4,e5,e6,e7,e8,e9⟩:=hcs wr (Fr.refl _ _);have hbb:bb<wr.heap.size:=by
     rcases Nat.lt_or_ge bb wr.heap.size with hh|hh
     ·exact hh
     ·unfold World.cell? at e0
      rw [Array.getElem?_eq_none hh] at e0
      cases e0
    obtain ⟨Ar2,cr2,NV2,DV2,vs2,g1,g2,g3,g4⟩:=hq2.mem;have hlen:((LL.take j).map (·.e)).length=j:=by rw [List.length_map,List.length_take];omega
    change bG wr (part dG 4) TEq 9 DV2 ((LL.take j).map (·.e)).length (gV ((LL.take j).map (·.e))) at g4
    rw [hlen] at g4;obtain ⟨Ad2,cd2,rfl,-⟩:=g4.form;have z2:wr.cell? ⟨z,2,none⟩=some (.slice Ad2 j cd2):=g1.cell 2;have aj8:=g1.lt;have hown:=fun V (hV:Fr No wr V)=>g4.ak hV;have hnext:=fun W W' v' (hf:Fr No wr W) ha=>kE.next (W:=W) (W' :=W') (v' :=v') (x:=x) hq2 ho2 hn2 hfr2 g1 g2 g3 g4 oy lK hx hf ha;have aob:∀V,Fr No wr V→V.cell? ⟨bb,off+j*10+1,none⟩=some (.int .i64 x.e.kind)∧V.cell? ⟨bb,off+j*10+2,none⟩=some (.int .i64 x.e.tick)∧V.cell? ⟨bb,off+j*10+3,none⟩=some (.int .i64 x.e.aS)∧V.cell? ⟨bb,off+j*10+4,none⟩=some (.int .i64 x.e.cell)∧V.cell? ⟨bb,off+j*10+5,none⟩=some (.int .i64 x.e.other)∧V.cell? ⟨bb,off+j*10+6,none⟩=some (.int .i64 x.e.epoch)∧V.cell? ⟨bb,off+j*10+7,none⟩=some (.int .i64 x.e.from_)∧V.cell? ⟨bb,off+j*10+8,none⟩=some (.int .i64 x.e.bA)∧V.cell? ⟨bb,off+j*10+9,none⟩=some (.int .i64 x.e.n):=fun V hV=>let ⟨_,c1,c2,c3,c4,c5,c6,c7,c8,c9⟩:=hcs V hV;⟨c1,c2,c3,c4,c5,c6,c7,c8,c9⟩;clear hrl hq2 ho2 hn2 hfr2 g1 g2 g3 g4 hcs e0 hlen HEN HDN hx;obtain ⟨t,⟨kd,tick,te,ce,ot,ep,fr,un,nn⟩⟩:=x;simp only at e1 e2 e3 e4 e5 e6 e7 e8 e9 aob;obtain ⟨HOWN,fJ,at1⟩:=bP hown hnext aob;clear hown hnext aob
    go_upto_region 9 with fail
    go_region_law
     (first
     |(refine bf _ (by rfl) (.tmp 46) (.tmp 58) _ (by rfl) 0 TEq i1 _ 9 72 Tryz.underlying64 hi1 hy0 hy1 hy2 rfl dcd (.slice Ad2 j cd2) j (gV ((LL.take j).map (·.e))) (by rfl) (HOWN.out _ fry).1 _ (some ⟨_,0,none⟩) 1 1 (En.cells ⟨kd,tick,te,ce,ot,ep,fr,un,nn⟩) (by rfl) (fun h=>by cases h) (acs (by first|(refine dM _ _ _ _ ?_;simp;done)|exact Blk.fr (F:=No) (Blk.new wr TEq #[.int .i64 kd,.int .i64 tick,.int .i64 te,.int .i64 ce,.int .i64 ot,.int .i64 ep,.int .i64 fr,.int .i64 un,.int .i64 nn]) fry id)) rfl (uK _) mxl oy (Nat.zero_le _) ?_;intro v9 w9 happ;obtain ⟨A9,c9,rfl,n9⟩:=aC happ.1;obtain ⟨t9,z9,y9⟩:=fJ.out _ _ _ fry happ;have T9:=O t9;clear t9 n9 happ))
    all_goals
     go_wp2_with fail
     go_roundw
     case rel=>exact ⟨j+1,by omega,by go_num,T9.out⟩
     case measure=>simp [intOf];omega
end
section
section
variable {w w' :World}{lab lab' :Nat→Option Nat}{z n m:Nat}{pv:Nat→Nat}{q q1:Qs}{F:Nat→Prop}
theorem kD.to {l:List Ms}(h:kD w lab z pv q n l l.length w'):gU w lab z pv {q with net:=sendAll q.net l} n w' :=by
 obtain ⟨lab',h1,h2,h3,h4,-⟩:=h;rw [List.take_length] at h1;exact ⟨lab',h1,h2,h4.mono fun b hb=>by rw [hb];simp⟩
theorem mG.to (h:mG w lab z pv q n q.n w'):gU w lab z pv q.note n w' :=by
 obtain ⟨lab',h1,h2,h3,h4⟩:=h;exact ⟨lab',h1,h2,h4.mono fun b hb=>by rcases hb with hb|hb<;>rw [hb]<;>simp⟩
theorem gU.from {w1:World}{aZ:Nat→Option Nat}(h:gU w1 aZ z pv q n w')(ha:∀b,b<w.heap.size→aZ b=lab b)(hf:Fr (fun b=>lab b≠none) w w1):gU w lab z pv q n w' :=by
 obtain ⟨dG,a2,b2,c2⟩:=h;refine ⟨dG,a2,fun b hb=>(b2 b (nll hb hf.size)).trans (ha b hb),hf.trans c2 fun b hb=> ?_⟩
 rcases Nat.lt_or_ge b w.heap.size with hl|hl
 ·rw [ha b hl] at hb
  exact .inl hb
 ·exact .inr hl
theorem eD.xD (h:eD w lab z pv q n):∃br cr,q.n≤cr∧cr≤maxLen∧lab br=some 1∧br<w.heap.size∧w.cell? ⟨z,0,none⟩=some (.slice (some ⟨br,0,none⟩) q.n cr)∧∀i,i<q.n→w.cell? ⟨br,i,none⟩=some (.pointer (some ⟨pv i,0,none⟩)):=by
 obtain ⟨Ar,cr,NV,DV,vs,h1,h2,h3,h4⟩:=h.mem;have hp:=h.ok.pos;have hc:=h2.cap;obtain ⟨br,rfl,hbl,hb1,hb⟩:=iV h2 hp;refine ⟨br,cr,hc.1,hc.2,hb1,hbl,h1.cell 0,fun i hi=> ?_⟩;rw [(hb i (by simpa using hi)).1]
 simp
theorem eD.keeps (h:eD w lab z pv q n){i:Nat}(hf:Fr (part lab (10+i)) w w'):Keeps w lab z w' :=by
 refine ⟨fun p hp hl=>hf.cell hp fun (hh:lab p.block=some (10+i))=> ?_,hf.cell (p:=⟨z,0,none⟩) (h.lt z 0 h.z0) (aG (show (0:Nat)≠10+i by omega) z h.z0)⟩;rw [hh] at hl
 rcases hl with hl|hl
 ·cases hl
 ·injection hl with hl
  omega
theorem eD.sent (h:eD w lab z pv q n){i:Nat}(hi:i<q.n){x:Rs×List Ms}{e:Ending}(hnm:n≤m)(hc:aH w (part lab (10+i)) (pv i) x m e w')(h1:x.1.id=(q.rs i).id)(h2:x.1.n=(q.rs i).n)(hto:∀y∈x.2,fI q.n y)(hl:x.2.length≤5):
  ∃A c,e= .returned (.slice A x.2.length c)∧Keeps w lab z w'∧Calls Tryz.prog 65 #[.pointer (some ⟨z,0,none⟩),.slice A x.2.length c] w' fun e2 w2=>e2= .returned (.tuple #[])∧Keeps w lab z w2∧gU w lab z pv (q.put i x) m w2:=by
 obtain ⟨A,c,lab',Gs,vs,e1,a1,a2,a3,a4,a5⟩:=h.turned hi hnm hc h1 h2;have hk:=h.keeps a5;refine ⟨A,c,e1,hk,(ah7 a1 a2 a3 hto oy).mono ?_⟩;rintro e2 w2 ⟨rfl,s⟩;refine ⟨rfl,⟨fun p hp hl=> ?_,?_⟩,?_⟩
 ·obtain ⟨-,-,-,-,s4,-⟩:=s
  rw [s4.cell (nll hp a5.size) (fun hh=> ?_),hk.1 p hp hl];rw [a4 _ hp] at hh
  rcases hl with hl|hl<;>rw [hl] at hh<;>simp at hh
 ·obtain ⟨-,-,-,-,-,s5⟩:=s
  exact s5.trans hk.2
 ·have:=s.to
  exact this.from a4 (a5.mono fun b hb=>by
   have hb:lab b=some (10+i):=hb;rw [hb];simp)
theorem gU.noted (h:gU w lab z pv q n w'):Calls Tryz.prog 68 #[.pointer (some ⟨z,0,none⟩)] w' fun e2 w2=>e2= .returned (.tuple #[])∧gU w lab z pv q.note n w2:=by
 obtain ⟨lab',h1,h2,h3⟩:=h;refine (ah8 h1).mono ?_;rintro e2 w2 ⟨rfl,s⟩;exact ⟨rfl,s.to.from h2 h3⟩
end
end
theorem ab9:(Tryz.prog.info? rT).map (fun i=>(i.zero,i.size,i.bytes))=some (some (.pointer none),1,8):=by kernel_rfl
def kF (w:World)(n z k:Nat)(W:World):Prop:=
 ∃(lab:Nat→Option Nat) (pv:Nat→Nat) (A:Option Addr) (c:Nat),(∀b j,lab b=some j→w.heap.size≤b∧b<W.heap.size)∧lab z=some 0∧Blk W z je #[.slice A k c,.slice none 0 0,.slice none 0 0]∧Own W (part lab 1) rT (.slice A k c) ((List.range k).map fun i=> .pointer (some ⟨pv i,0,none⟩))∧(∀i,i<k→bR W (part lab (10+i)) (pv i) (dF i n) 0)∧Fr No w W
theorem kF.next {w wr W1 W' :World}{n z k p:Nat}{lab:Nat→Option Nat}{pv:Nat→Nat}{A:Option Addr}{c:Nat}{F:Nat→Prop}{v' :Value}
  (h1:∀b j,lab b=some j→w.heap.size≤b∧b<wr.heap.size) (h2:lab z=some 0) (h3:Blk wr z je #[.slice A k c,.slice none 0 0,.slice none 0 0]) (h4:Own wr (part lab 1) rT (.slice A k c) ((List.range k).map fun i=> .pointer (some ⟨pv i,0,none⟩)))
  (h5:∀i,i<k→bR wr (part lab (10+i)) (pv i) (dF i n) 0) (h6:Fr No w wr) (hr:bR W1 F p (dF k n) 0) (hF:∀i,F i→wr.heap.size≤i) (hf:Fr No wr W1)
  (ha:dV (W1.alloc (.cells #[.pointer (some ⟨p,0,none⟩)] rT)) 0 rT (.slice A k c) k ((List.range k).map fun i=> .pointer (some ⟨pv i,0,none⟩)) [.pointer (some ⟨p,0,none⟩)] 1 v' W'):
  kF w n z (k+1) (W'.setCell ⟨z,0,none⟩ v')∧Fr (part lab 1) W1 W' :=by
 classical
 have hf2:Fr No wr (W1.alloc (.cells #[.pointer (some ⟨p,0,none⟩)] rT)):=hf.alloc _;obtain ⟨o1,f1⟩:=(h4.ak hf2).appended (by simp) rfl ha;obtain ⟨pv2,hpv2⟩:∃pv2:Nat→Nat,pv2=fun i=>if i=k then p else pv i:=⟨_,rfl⟩
 rw [show ((List.range k).map (fun i=>Value.pointer (some (⟨pv i,0,none⟩:Addr)))++[Value.pointer (some ⟨p,0,none⟩)])=(List.range (k+1)).map (fun i=>Value.pointer (some (⟨pv2 i,0,none⟩:Addr))) from by
  rw [List.range_succ,List.map_append,List.map_singleton,hpv2];simp only [if_true]
  congr 1
  apply List.map_congr_left
  intro i hi;rw [if_neg (by have:=List.mem_range.1 hi;omega)]] at o1
 have hlen:((List.range (k+1)).map (fun i=>Value.pointer (some (⟨pv2 i,0,none⟩:Addr)))).length=k+1:=by simp
 obtain ⟨A',c',hv,-⟩:=o1.form;rw [hlen] at hv;subst hv;have hsz:=hf.size;have hsa:(W1.alloc (.cells #[.pointer (some ⟨p,0,none⟩)] rT)).heap.size=W1.heap.size+1:=by simp
 have hs1:=f1.size;have hzl:=(h1 z 0 h2).2;have hrl:=hr.lt;rw [hsa] at hs1;obtain ⟨dG,hlab⟩:∃dG:Nat→Option Nat,dG=fun b=>if b<wr.heap.size then lab b else if F b then some (10+k) else if b=W1.heap.size+1∧b<W'.heap.size then some 1 else none:=⟨_,rfl⟩
 have ho:∀b,b<wr.heap.size→dG b=lab b:=fun b hb=>by rw [hlab];exact if_pos hb
 have hold:∀j b,lab b=some j→dG b=some j:=fun j b hb=>by rw [ho b (h1 b j hb).2];exact hb
 have hfz:Fr (fun b=>b=z) W' (W'.setCell ⟨z,0,none⟩ (.slice A' (k+1) c')):=dx W' ⟨z,0,none⟩ _;have hlt2:∀b j,dG b=some j→w.heap.size≤b∧b<(W'.setCell ⟨z,0,none⟩ (.slice A' (k+1) c')).heap.size:=fun b j hb=>by
  have h6s:=h6.size;have h7s:=hfz.size;rw [hlab] at hb;simp only at hb
  split at hb
  ·have:=h1 b j hb
   omega
  ·split at hb
   ·have:=hrl b ‹_›
    omega
   ·split at hb
    ·omega
    ·cases hb
 have hne:∀i j:Nat,i≠j→∀b,lab b=some i→¬lab b=some j:=fun i j hij b hi hj=>by
  rw [hi] at hj;injection hj with hj;exact hij hj
 have hFn:∀b,F b→¬part lab 1 b:=fun b hb hh=>by
  have:=hF b hb;have:=(h1 b 1 hh).2
  omega
 refine ⟨⟨dG,pv2,A',c',hlt2,hold 0 z h2,?_,?_,fun i hi=> ?_,?_⟩,((aj W1 _).mono (G:=part lab 1) fun _ h=>h.elim).trans f1 fun b hb=> .inl hb⟩
 ·have hz2:Blk W' z je #[.slice A k c,.slice none 0 0,.slice none 0 0]:=(h3.fr hf2 id).fr f1 (hne 0 1 oy z h2)
  exact (hz2.aU 0 _).conv rfl
 ·refine ((o1.fr hfz fun b hb e=> ?_).mono fun b hb=> ?_)
  ·rcases hb with hb|⟨hb,-⟩
   ·exact hne 1 0 oy b hb (e▸h2)
   ·rw [hsa] at hb;omega
  ·rcases hb with hb|⟨hb,hb2⟩
   ·exact hold 1 b hb
   ·rw [hsa] at hb
    show dG b=some 1
    rw [hlab];simp only;rw [if_neg oy,if_neg (fun hh=>by have:=hrl b hh;omega),if_pos ⟨hb,hb2⟩]
 ·by_cases hik:i=k
  ·subst hik
   have hpi:pv2 i=p:=by rw [hpv2];exact if_pos rfl
   rw [hpi];refine ((((hr.ak (aj _ _)).fr f1 hFn).fr hfz fun b hb e=> ?_).mono (fun b hb=> ?_) fun b hb=>(hlt2 b _ hb).2)
   ·have:=hF b hb
    omega
   ·show dG b=some (10+i)
    rw [hlab];simp only;rw [if_neg (by have:=hF b hb;omega),if_pos hb]
  ·have hpi:pv2 i=pv i:=by rw [hpv2];exact if_neg hik
   rw [hpi];exact ((((h5 i oy).ak hf2).fr f1 (hne (10+i) 1 oy)).fr hfz (fun b hb e=>hne (10+i) 0 oy b hb (e▸h2))).mono (hold (10+i)) fun b hb=>(hlt2 b _ hb).2
 ·have hfin:Fr No w W' :=(h6.ah hf2).trans f1 fun b hb=> .inr (h1 b 1 hb).1
  exact hfin.trans hfz fun b hb=> .inr (by have:=h1 z 0 h2;omega)
theorem kF.done {w W:World}{n z:Nat}(h:kF w n z n W)(h0:0<n)(h5:n≤5):∃lab pv,eD W lab z pv (jJ n) 0∧(∀b j,lab b=some j→w.heap.size≤b)∧Fr No w W:=by
 obtain ⟨lab,pv,A,c,a1,a2,a3,a4,a5,a6⟩:=h;refine ⟨lab,pv,⟨fun b k hb=>(a1 b k hb).2,⟨A,c,.slice none 0 0,.slice none 0 0,[],a3,a4,?_,bG.nil _ _ _ _⟩,a2,fun i hi=>a5 i hi,lu.new h0 h5⟩,fun b j hb=>(a1 b j hb).1,a6⟩;exact ⟨bG.nil _ _ _ _,rfl,(fun i m x hm=>by cases hm),aG (show (2:Nat)≠3 by omega),fun b hb=>(a1 b 2 hb).2,fun b hb=>(a1 b 3 hb).2⟩
set_option maxHeartbeats 8000000 in
theorem ab7 (n:Nat)(w:World)(h5:n≤5)(hodd:n % 2=1):Calls Tryz.prog 23 #[.int .i64 (n:Int)] w fun e w' =>∃z lab pv,e= .returned (.tuple #[.pointer (some ⟨z,0,none⟩),.int .i64 0])∧eD w' lab z pv (jJ n) 0∧(∀b j,lab b=some j→w.heap.size≤b)∧Fr No w w' :=by
 obtain ⟨i1,hi1,hz0,hz1,hz2⟩:=info_parts ab9;obtain ⟨W0,hW0⟩:∃W0,W0=w.alloc (.cells #[.slice none 0 0,.slice none 0 0,.slice none 0 0] je):=⟨_,rfl⟩;obtain ⟨z,hz⟩:∃z,z=w.heap.size:=⟨_,rfl⟩;have hb0:Blk W0 z je #[.slice none 0 0,.slice none 0 0,.slice none 0 0]:=by rw [hz,hW0];exact Blk.new _ _ _
 have hzw:w.heap.size≤z:=by rw [hz];exact Nat.le_refl _
 have hstart:kF w n z 0 W0:=by
  refine ⟨fun b=>if b=z then some 0 else none,fun _=>0,none,0,fun b j hb=> ?_,if_pos rfl,hb0,Own.nil _ _ _,fun i hi=>absurd hi (Nat.not_lt_zero i),by rw [hW0];exact aj _ _⟩
  by_cases h:b=z
  ·rw [h];exact ⟨hzw,hb0.lt⟩
  ·simp only [if_neg h] at hb
   cases hb
 have hrn:=fun k W (hk:k<n)=>ab3 k n W hk h5 hodd;clear hzw;have hgl:=hb0.lt;clear hb0;have hn3:n=1∨n=3∨n=5:=by omega
 clear h5 hodd;obtain ⟨HW0,HZ,iw,HRN⟩:=fK hW0 hz hstart hrn;clear hW0 hz hstart hrn
 rcases hn3 with rfl|rfl|rfl
 ·change Calls Tryz.prog 23 #[.int .i64 1] w _
  go_in
  go_upto_region 2 with fail
  rw [←HW0.out,←HZ.out];clear HW0
  go_wp2_with fail
  go_loopw [5] (fun i wr=>∃k:Nat,k≤1∧i= .int .i64 k∧kF w 1 z k wr) (fun i _=>1-(intOf i).toNat)
  case atStart=>exact ⟨0,Nat.zero_le _,rfl,iw.out⟩
  case round=>
   obtain ⟨k,hk,rfl,hrel⟩:=hrel
   by_cases hlt:k<1
   ·have b1:decide (k<1)=true:=decide_eq_true hlt
    have b2:decide ((k:Int)<1)=true:=dtt;have b3:decide (k≤5)=true:=dtt;have b4:decide ((k:Int)≤5)=true:=dtt;have hnew:=HRN.out k wr hlt;obtain ⟨lab,pv,A,c,a1,a2,a3,a4,a5,a6⟩:=hrel;have hcap:=a4.cap;have hzl:=(a1 z 0 a2).2;have hz0' :=fun W (hf:Fr No wr W)=>(⟨(a3.fr hf fun h=>h).cell 0,(a3.fr hf fun h=>h).frozen 0⟩:W.cell? ⟨z,0,none⟩=some (.slice A k c)∧W.frozen? ⟨z,0,none⟩=false);have hz1' :=fun W W' (hf:Fr No wr W) (hf' :Fr (part lab 1) W W')=>(⟨((a3.fr hf fun h=>h).fr hf' (aG oy z a2)).cell 0,((a3.fr hf fun h=>h).fr hf' (aG oy z a2)).frozen 0⟩:W'.cell? ⟨z,0,none⟩=some (.slice A k c)∧W'.frozen? ⟨z,0,none⟩=false);have hown:=fun W (hf:Fr No wr W)=>(a4.ak hf).1;have hnext:=fun W1 W' p F v' hr hF hf ha=>kF.next (w:=w) (n:=1) (W1:=W1) (W' :=W') (p:=p) (F:=F) (v' :=v') a1 a2 a3 a4 a5 a6 hr hF hf ha;clear a1 a2 a3 a4 a5 a6;simp only [List.length_map,List.length_range] at hown;have nG:=O hnew;have aa3 :=O hz0';have aa2 :=O hz1';obtain ⟨HOWN,fJ⟩:=aO hown hnext;clear hnew hz0' hz1' hown hnext
    go_wp2_with fail
    refine nG.out.mono ?_;rintro e w1 ⟨p,F,rfl,r1,r2,r3⟩;obtain ⟨z1,y1⟩:=aa3.out _ r3;have hnx:=O fun W' v' ha=>fJ.out w1 W' p F v' r1 r2 r3 ha;have R3:=O r3;have adu:=nll hzl r3.size;clear r1 r2 r3 fJ aa3 nG
    go_wp2_with (at_builtin;refine ay _ rfl (.tmp 33) (.tmp 35) _ rfl 0 rT i1 _ 8 Tryz.underlying62 hi1 hz0 hz1 hz2 rfl (.slice A k c) k ((List.range k).map fun i=> .pointer (some ⟨pv i,0,none⟩)) rfl (HOWN.out _ (R3.out.alloc _)) (w1.heap.size+1) (some ⟨w1.heap.size,0,none⟩) 1 1 [.pointer (some ⟨p,0,none⟩)] rfl (fun h=>by cases h) (Rd.new w1 _ rT rfl) rfl (fun u hu=>by simp at hu;subst hu;rfl) mxl oy (Nat.zero_le _) ?_)
    intro v1 w2 happ;obtain ⟨A4,c4,rfl,n4⟩:=aC happ.1;clear n4;obtain ⟨t9,f9⟩:=hnx.out w2 _ happ;obtain ⟨x9,y9⟩:=aa2.out _ _ R3.out f9;have aj8:=nll adu f9.size;have T9:=O t9;clear happ t9 f9 hnx aa2 HOWN R3 z1 y1
    go_wp2_with fail
    go_roundw
    case rel=>exact ⟨k+1,by omega,by go_num,T9.out⟩
    case measure=>simp [intOf];omega
   ·obtain rfl:k=1:=by omega
    have T9:=O (hrel.done oy oy);clear hrel hlt
    go_wp2_with fail
    go_ret2
    obtain ⟨lab,pv,t1,t2,t3⟩:=T9.out;exact ⟨z,lab,pv,rfl,t1,t2,t3⟩
 ·change Calls Tryz.prog 23 #[.int .i64 3] w _
  go_in
  go_upto_region 2 with fail
  rw [←HW0.out,←HZ.out];clear HW0
  go_wp2_with fail
  go_loopw [5] (fun i wr=>∃k:Nat,k≤3∧i= .int .i64 k∧kF w 3 z k wr) (fun i _=>3-(intOf i).toNat)
  case atStart=>exact ⟨0,Nat.zero_le _,rfl,iw.out⟩
  case round=>
   obtain ⟨k,hk,rfl,hrel⟩:=hrel
   by_cases hlt:k<3
   ·have b1:decide (k<3)=true:=decide_eq_true hlt
    have b2:decide ((k:Int)<3)=true:=dtt;have b3:decide (k≤5)=true:=dtt;have b4:decide ((k:Int)≤5)=true:=dtt;have hnew:=HRN.out k wr hlt;obtain ⟨lab,pv,A,c,a1,a2,a3,a4,a5,a6⟩:=hrel;have hcap:=a4.cap;have hzl:=(a1 z 0 a2).2;have hz0' :=fun W (hf:Fr No wr W)=>(⟨(a3.fr hf fun h=>h).cell 0,(a3.fr hf fun h=>h).frozen 0⟩:W.cell? ⟨z,0,none⟩=some (.slice A k c)∧W.frozen? ⟨z,0,none⟩=false);have hz1' :=fun W W' (hf:Fr No wr W) (hf' :Fr (part lab 1) W W')=>(⟨((a3.fr hf fun h=>h).fr hf' (aG oy z a2)).cell 0,((a3.fr hf fun h=>h).fr hf' (aG oy z a2)).frozen 0⟩:W'.cell? ⟨z,0,none⟩=some (.slice A k c)∧W'.frozen? ⟨z,0,none⟩=false);have hown:=fun W (hf:Fr No wr W)=>(a4.ak hf).1;have hnext:=fun W1 W' p F v' hr hF hf ha=>kF.next (w:=w) (n:=3) (W1:=W1) (W' :=W') (p:=p) (F:=F) (v' :=v') a1 a2 a3 a4 a5 a6 hr hF hf ha;clear a1 a2 a3 a4 a5 a6;simp only [List.length_map,List.length_range] at hown;have nG:=O hnew;have aa3 :=O hz0';have aa2 :=O hz1';obtain ⟨HOWN,fJ⟩:=aO hown hnext;clear hnew hz0' hz1' hown hnext
    go_wp2_with fail
    refine nG.out.mono ?_;rintro e w1 ⟨p,F,rfl,r1,r2,r3⟩;obtain ⟨z1,y1⟩:=aa3.out _ r3;have hnx:=O fun W' v' ha=>fJ.out w1 W' p F v' r1 r2 r3 ha;have R3:=O r3;have adu:=nll hzl r3.size;clear r1 r2 r3 fJ aa3 nG
    go_wp2_with (at_builtin;refine ay _ rfl (.tmp 33) (.tmp 35) _ rfl 0 rT i1 _ 8 Tryz.underlying62 hi1 hz0 hz1 hz2 rfl (.slice A k c) k ((List.range k).map fun i=> .pointer (some ⟨pv i,0,none⟩)) rfl (HOWN.out _ (R3.out.alloc _)) (w1.heap.size+1) (some ⟨w1.heap.size,0,none⟩) 1 1 [.pointer (some ⟨p,0,none⟩)] rfl (fun h=>by cases h) (Rd.new w1 _ rT rfl) rfl (fun u hu=>by simp at hu;subst hu;rfl) mxl oy (Nat.zero_le _) ?_)
    intro v1 w2 happ;obtain ⟨A4,c4,rfl,n4⟩:=aC happ.1;clear n4;obtain ⟨t9,f9⟩:=hnx.out w2 _ happ;obtain ⟨x9,y9⟩:=aa2.out _ _ R3.out f9;have aj8:=nll adu f9.size;have T9:=O t9;clear happ t9 f9 hnx aa2 HOWN R3 z1 y1
    go_wp2_with fail
    go_roundw
    case rel=>exact ⟨k+1,by omega,by go_num,T9.out⟩
    case measure=>simp [intOf];omega
   ·obtain rfl:k=3:=by omega
    have T9:=O (hrel.done oy oy);clear hrel hlt
    go_wp2_with fail
    go_ret2
    obtain ⟨lab,pv,t1,t2,t3⟩:=T9.out;exact ⟨z,lab,pv,rfl,t1,t2,t3⟩
 ·change Calls Tryz.prog 23 #[.int .i64 5] w _
  go_in
  go_upto_region 2 with fail
  rw [←HW0.out,←HZ.out];clear HW0
  go_wp2_with fail
  go_loopw [5] (fun i wr=>∃k:Nat,k≤5∧i= .int .i64 k∧kF w 5 z k wr) (fun i _=>5-(intOf i).toNat)
  case atStart=>exact ⟨0,Nat.zero_le _,rfl,iw.out⟩
  case round=>
   obtain ⟨k,hk,rfl,hrel⟩:=hrel
   by_cases hlt:k<5
   ·have b1:decide (k<5)=true:=decide_eq_true hlt
    have b2:decide ((k:Int)<5)=true:=dtt;have b3:decide (k≤5)=true:=dtt;have b4:decide ((k:Int)≤5)=true:=dtt;have hnew:=HRN.out k wr hlt;obtain ⟨lab,pv,A,c,a1,a2,a3,a4,a5,a6⟩:=hrel;have hcap:=a4.cap;have hzl:=(a1 z 0 a2).2;have hz0' :=fun W (hf:Fr No wr W)=>(⟨(a3.fr hf fun h=>h).cell 0,(a3.fr hf fun h=>h).frozen 0⟩:W.cell? ⟨z,0,none⟩=some (.slice A k c)∧W.frozen? ⟨z,0,none⟩=false);have hz1' :=fun W W' (hf:Fr No wr W) (hf' :Fr (part lab 1) W W')=>(⟨((a3.fr hf fun h=>h).fr hf' (aG oy z a2)).cell 0,((a3.fr hf fun h=>h).fr hf' (aG oy z a2)).frozen 0⟩:W'.cell? ⟨z,0,none⟩=some (.slice A k c)∧W'.frozen? ⟨z,0,none⟩=false);have hown:=fun W (hf:Fr No wr W)=>(a4.ak hf).1;have hnext:=fun W1 W' p F v' hr hF hf ha=>kF.next (w:=w) (n:=5) (W1:=W1) (W' :=W') (p:=p) (F:=F) (v' :=v') a1 a2 a3 a4 a5 a6 hr hF hf ha;clear a1 a2 a3 a4 a5 a6;simp only [List.length_map,List.length_range] at hown;have nG:=O hnew;have aa3 :=O hz0';have aa2 :=O hz1';obtain ⟨HOWN,fJ⟩:=aO hown hnext;clear hnew hz0' hz1' hown hnext
    go_wp2_with fail
    refine nG.out.mono ?_;rintro e w1 ⟨p,F,rfl,r1,r2,r3⟩;obtain ⟨z1,y1⟩:=aa3.out _ r3;have hnx:=O fun W' v' ha=>fJ.out w1 W' p F v' r1 r2 r3 ha;have R3:=O r3;have adu:=nll hzl r3.size;clear r1 r2 r3 fJ aa3 nG
    go_wp2_with (at_builtin;refine ay _ rfl (.tmp 33) (.tmp 35) _ rfl 0 rT i1 _ 8 Tryz.underlying62 hi1 hz0 hz1 hz2 rfl (.slice A k c) k ((List.range k).map fun i=> .pointer (some ⟨pv i,0,none⟩)) rfl (HOWN.out _ (R3.out.alloc _)) (w1.heap.size+1) (some ⟨w1.heap.size,0,none⟩) 1 1 [.pointer (some ⟨p,0,none⟩)] rfl (fun h=>by cases h) (Rd.new w1 _ rT rfl) rfl (fun u hu=>by simp at hu;subst hu;rfl) mxl oy (Nat.zero_le _) ?_)
    intro v1 w2 happ;obtain ⟨A4,c4,rfl,n4⟩:=aC happ.1;clear n4;obtain ⟨t9,f9⟩:=hnx.out w2 _ happ;obtain ⟨x9,y9⟩:=aa2.out _ _ R3.out f9;have aj8:=nll adu f9.size;have T9:=O t9;clear happ t9 f9 hnx aa2 HOWN R3 z1 y1
    go_wp2_with fail
    go_roundw
    case rel=>exact ⟨k+1,by omega,by go_num,T9.out⟩
    case measure=>simp [intOf];omega
   ·obtain rfl:k=5:=by omega
    have T9:=O (hrel.done oy oy);clear hrel hlt
    go_wp2_with fail
    go_ret2
    obtain ⟨lab,pv,t1,t2,t3⟩:=T9.out;exact ⟨z,lab,pv,rfl,t1,t2,t3⟩
end Go.Proofs.YtjnfmfmglehmbaaGreat
