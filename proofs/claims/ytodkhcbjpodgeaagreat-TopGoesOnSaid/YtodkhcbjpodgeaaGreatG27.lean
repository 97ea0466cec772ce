/-
  Messages in memory, read by their places; what a call leaves of a replica of the caller's own.
-/
import Derived.Test.YtodkhcbjpodgeaaGreatG04
import Derived.Test.YtodkhcbjpodgeaaGreatG25
namespace Go.Proofs.YtodkhcbjpodgeaaGreat
open Go.ChangeShapes Go.WideShapes Go.ChangeAt Go.RowKit
set_option linter.unusedVariables false
set_option maxRecDepth 100000
set_option maxHeartbeats 4000000
theorem ai7:∀(ms:List Ms) (vs:List Value) (i j:Nat) (m:Ms) (v:Value),ms[i]? =some m→vs[i]? =some v→j<9→(msV ms vs)[i*9+j]? =(m.cells v)[j]? :=by
 intro ms
 induction ms with
 |nil=>intro vs i j m v h;simp at h
 |cons x ms ih=>
  intro vs i j m v h1 h2 hj
  rcases vs with _|⟨y,vs⟩
  ·simp at h2
  ·have hl:(x.cells y).length=9:=rfl
   simp only [msV]
   rcases i with _|i
   ·simp at h1 h2
    subst h1 h2;rw [List.getElem?_append_left oy]
    congr 1
    omega
   ·rw [List.getElem?_append_right oy,hl,show (i+1)*9+j-9=i*9+j from by omega]
    exact ih vs i j m v (by simpa using h1) (by simpa using h2) hj
abbrev aj7 (W:World)(b i:Nat)(m:Ms)(v:Value):Prop:=
 W.cell? ⟨b,i*9,none⟩=some (.int .i64 m.kind)∧W.cell? ⟨b,i*9+1,none⟩=some (.int .i64 m.from_)∧W.cell? ⟨b,i*9+2,none⟩=some (.int .i64 m.to_)∧W.cell? ⟨b,i*9+3,none⟩=some (.int .i64 m.term)∧W.cell? ⟨b,i*9+4,none⟩=some (.int .i64 m.index)∧W.cell? ⟨b,i*9+5,none⟩=some (.int .i64 m.prev)∧W.cell? ⟨b,i*9+6,none⟩=some (.int .i64 m.commit)∧W.cell? ⟨b,i*9+7,none⟩=some (.bool m.ok)∧W.cell? ⟨b,i*9+8,none⟩=some v
theorem iU.at_ {w:World}{Gs Ge:Nat→Prop}{A:Option Addr}{n c:Nat}{ms:List Ms}{vs:List Value}(h:iU w Gs Ge (.slice A n c) ms vs){i:Nat}{m:Ms}(hi:ms[i]? =some m):
  ∃b v,A=some ⟨b,0,none⟩∧b<w.heap.size∧Gs b∧vs[i]? =some v∧Ent w Ge v m.es∧aj7 w b i m v:=by
 have hlt:=(List.getElem?_eq_some_iff.1 hi).1;obtain ⟨A',c',e,-⟩:=h.own.form;injection e with e1 e2 e3;subst e1 e2 e3;obtain ⟨b,rfl,hb,hF,hc⟩:=h.own.head oy;obtain ⟨v,hv⟩:∃v,vs[i]? =some v:=⟨_,List.getElem?_eq_getElem (by rw [h.len];exact hlt)⟩;have hml:=ai6 ms vs h.len;have g:=fun j (hj:j<9)=>((hc (i*9+j) oy).trans (ai7 ms vs i j m v hi hv hj):w.cell? ⟨b,i*9+j,none⟩=(m.cells v)[j]?);exact ⟨b,v,rfl,hb,hF,hv,h.each i m v hi hv,g 0 oy,g 1 oy,g 2 oy,g 3 oy,g 4 oy,g 5 oy,g 6 oy,g 7 oy,g 8 oy⟩
section
abbrev qK:TypeId:=244
abbrev TPR:TypeId:=260
abbrev part (lab:Nat→Option Nat)(k:Nat):Nat→Prop:=fun b=>lab b=some k
def En.cells (e:En):List Value:=[.int .i64 e.kind,.int .i64 e.tick,.int .i64 e.bF,.int .i64 e.cell,.int .i64 e.other,.int .i64 e.epoch,.int .i64 e.from_,.int .i64 e.fE,.int .i64 e.n]
def lF (l:List En):List Value:=l.flatMap En.cells
theorem afx (l:List En):(lF l).length=l.length*9:=by
 unfold lF
 induction l with
 |nil=>rfl
 |cons e l ih=>simp only [List.flatMap_cons,List.length_append,List.length_cons,ih,Nat.succ_mul];simp [En.cells];omega
theorem acg (l:List En)(e:En):lF (l++[e])=lF l++e.cells:=by simp [lF]
theorem acf (e:En):∀u∈e.cells,u.oneCell' =true:=by
 intro u hu;simp only [En.cells,List.mem_cons,List.not_mem_nil,or_false] at hu
 rcases hu with rfl|rfl|rfl|rfl|rfl|rfl|rfl|rfl|rfl<;>rfl
theorem RAt.mono {w:World}{F G:Nat→Prop}{p n:Nat}{r:Rs}(h:RAt w F p r n)(hFG:∀i,F i→G i)(hG:∀i,G i→i<w.heap.size):RAt w G p r n:=by
 obtain ⟨j,Fj,bits,nx,mt,h1,h2,h3,h4,h5,h6,h7⟩:=h;exact ⟨j,Fj,bits,nx,mt,h1,hFG p h2,h3,fun i hi=>hFG i (h4 i hi),h5,hG,h7⟩
theorem iU.wide {w:World}{Gs Ge H:Nat→Prop}{v:Value}{ms:List Ms}{vs:List Value}(h:iU w Gs Ge v ms vs)(hE:∀i,Ge i→H i)(ha:∀i,Gs i→¬H i)(hl:∀i,H i→i<w.heap.size):iU w Gs H v ms vs:=
 ⟨h.own,h.len,fun i m x hm hx=>(h.each i m x hm hx).mono hE,ha,h.ltS,hl⟩
theorem iU.same {w:World}{Gs Ge G H:Nat→Prop}{v:Value}{ms:List Ms}{vs:List Value}(h:iU w Gs Ge v ms vs)(hS:∀i,Gs i→G i)(hE:∀i,Ge i→H i)(ha:∀i,G i→¬H i)(hlS:∀i,G i→i<w.heap.size)(hl:∀i,H i→i<w.heap.size):iU w G H v ms vs:=
 ⟨h.own.mono hS,h.len,fun i m x hm hx=>(h.each i m x hm hx).mono hE,ha,hlS,hl⟩
structure QAt (w:World) (lab:Nat→Option Nat) (z:Nat) (pv:Nat→Nat) (q:Qs) (n:Nat):Prop where
 lt:∀b k,lab b=some k→b<w.heap.size
 mem:∃Ar cr NV DV vs,Blk w z qK #[.slice Ar q.n cr,NV,DV]∧Own w (part lab 1) TPR (.slice Ar q.n cr) ((List.range q.n).map fun i=> .pointer (some ⟨pv i,0,none⟩))∧iU w (part lab 2) (part lab 3) NV q.net vs∧aA w (part lab 4) 105 9 DV q.done.length (lF q.done)
 z0:lab z=some 0
 zy:∀i,i<q.n→RAt w (part lab (10+i)) (pv i) (q.rs i) n
 ok:tF q
section
variable {w w' :World}{lab:Nat→Option Nat}{z n m:Nat}{pv:Nat→Nat}{q:Qs}{F:Nat→Prop}
theorem QAt.fr (h:QAt w lab z pv q n)(hf:Fr F w w')(hd:∀b,F b→lab b=none):QAt w' lab z pv q n:=by
 have hn:∀k b,lab b=some k→¬F b:=fun k b hb hF=>by rw [hd b hF] at hb;cases hb
 obtain ⟨Ar,cr,NV,DV,vs,h1,h2,h3,h4⟩:=h.mem;exact ⟨fun b k hb=>nll (h.lt b k hb) hf.size,⟨Ar,cr,NV,DV,vs,h1.fr hf (hn 0 z h.z0),h2.fr hf (hn 1),h3.fr hf (hn 2) (hn 3),h4.fr' hf fun g hg=>hn 4 g (h4.2 g hg)⟩,h.z0,fun i hi=>(h.zy i hi).fr hf (hn (10+i)),h.ok⟩
theorem QAt.au (h:QAt w lab z pv q n)(hf:Fr No w w'):QAt w' lab z pv q n:=h.fr hf fun _ hi=>hi.elim
theorem QAt.more (h:QAt w lab z pv q n)(hn:n≤m):QAt w lab z pv q m:=⟨h.lt,h.mem,h.z0,fun i hi=>(h.zy i hi).more hn,h.ok⟩
def QTo (w:World)(lab:Nat→Option Nat)(z:Nat)(pv:Nat→Nat)(q:Qs)(n:Nat)(w' :World):Prop:=
 ∃lab',QAt w' lab' z pv q n∧(∀b,b<w.heap.size→lab' b=lab b)∧Fr (fun b=>lab b≠none) w w'
theorem QTo.after {w1:World}(hf:Fr No w w1)(hlt:∀b k,lab b=some k→b<w.heap.size)(h:QTo w1 lab z pv q n w'):QTo w lab z pv q n w' :=by
 obtain ⟨cZ,a1,b1,c1⟩:=h;exact ⟨cZ,a1,fun b hb=>b1 b (nll hb hf.size),(hf.mono (G:=fun b=>lab b≠none) fun _ hi=>hi.elim).trans c1 fun b hb=> .inl hb⟩
theorem QTo.more (h:QTo w lab z pv q n w')(hn:n≤m):QTo w lab z pv q m w' :=by
 obtain ⟨cZ,a1,b1⟩:=h;exact ⟨cZ,a1.more hn,b1⟩
open Classical in
noncomputable def qJ (w:World) (lab:Nat→Option Nat) (F' Ge:Nat→Prop) (i:Nat):Nat→Option Nat:=fun b=>if b<w.heap.size then lab b else if F' b then some (10+i) else if Ge b then some 3 else none
theorem wX {F' Ge:Nat→Prop}{i b:Nat}(hb:b<w.heap.size):qJ w lab F' Ge i b=lab b:=if_pos hb
theorem sD {F' Ge:Nat→Prop}{i b k:Nat}(h:qJ w lab F' Ge i b=some k):(b<w.heap.size∧lab b=some k)∨(w.heap.size≤b∧F' b∧k=10+i)∨(w.heap.size≤b∧¬F' b∧Ge b∧k=3):=by
 unfold qJ at h
 split at h
 ·exact .inl ⟨‹_›,h⟩
 ·split at h
  ·injection h with h
   exact .inr (.inl ⟨by omega,‹_›,h.symm⟩)
  ·split at h
   ·injection h with h
    exact .inr (.inr ⟨by omega,‹_›,‹_›,h.symm⟩)
   ·cases h
theorem QAt.turned (h:QAt w lab z pv q n){i:Nat}(hi:i<q.n){x:Rs×List Ms}{e:Ending}(hnm:n≤m)(hc:jE w (part lab (10+i)) (pv i) x m e w')(h1:x.1.id=(q.rs i).id)(h2:x.1.n=(q.rs i).n):
  ∃A c lab' Gs vs,e= .returned (.slice A x.2.length c)∧QAt w' lab' z pv (q.put i (x.1,[])) m∧iU w' Gs (part lab' 3) (.slice A x.2.length c) x.2 vs∧(∀b,Gs b→lab' b=none)∧(∀b,b<w.heap.size→lab' b=lab b)∧Fr (part lab (10+i)) w w' :=by
 obtain ⟨A,c,F',G,e1,⟨Gs,Ge,vs,m1,m2,m3⟩,r1,k1,k2,k3,fr⟩:=hc;have hsz:=fr.size;have aq4:=r1.lt;have hap:∀k b,k≠10+i→lab b=some k→¬part lab (10+i) b:=fun k b hk hb hp=>by
  have hp:lab b=some (10+i):=hp;rw [hb] at hp;injection hp with hp;exact hk hp
 have hlab:∀b k,qJ w lab F' Ge i b=some k→b<w'.heap.size:=fun b k hb=>by
  rcases sD hb with ⟨q1,-⟩|⟨-,q2,-⟩|⟨-,-,q2,-⟩
  ·omega
  ·exact aq4 b q2
  ·exact m1.ltE b q2
 have hold:∀k b,lab b=some k→part (qJ w lab F' Ge i) k b:=fun k b hb=>by
  show qJ w lab F' Ge i b=some k
  rw [wX (h.lt b k hb)];exact hb
 have auq:∀b,Gs b→qJ w lab F' Ge i b=none:=fun b hb=>by
  cases hq:qJ w lab F' Ge i b with
  |none=>rfl
  |some k=>
   have hbn:=k2 b (m2 b hb)
   rcases sD hq with ⟨q1,-⟩|⟨-,q2,-⟩|⟨-,-,q2,-⟩
   ·omega
   ·exact absurd (m2 b hb) (k3 b q2)
   ·exact absurd q2 (m1.apart b hb)
 have awy:∀j k:Nat,j≠k→∀b,part (qJ w lab F' Ge i) j b→¬part (qJ w lab F' Ge i) k b:=fun j k hjk b hj hk=>by
  have hj:qJ w lab F' Ge i b=some j:=hj;have hk:qJ w lab F' Ge i b=some k:=hk;rw [hj] at hk;injection hk with hk;exact hjk hk
 obtain ⟨Ar,cr,NV,DV,ns,b1,b2,b3,b4⟩:=h.mem;obtain ⟨o1,o2,o3⟩:=h.ok.each i hi;refine ⟨A,c,qJ w lab F' Ge i,Gs,vs,e1,⟨hlab,⟨Ar,cr,NV,DV,ns,b1.fr fr (hap 0 z oy h.z0),(b2.fr fr fun b hb=>hap 1 b oy hb).mono (hold 1),?_,(b4.fr' fr fun g hg=>hap 4 g oy (b4.2 g hg)).mono (hold 4)⟩,hold 0 z h.z0,fun j hj=> ?_,?_⟩,?_,auq,fun b hb=>wX hb,fr⟩
 ·exact (b3.fr fr (fun b hb=>hap 2 b oy hb) (fun b hb=>hap 3 b oy hb)).same (hold 2) (hold 3) (awy 2 3 oy) (fun b hb=>hlab b 2 hb) (fun b hb=>hlab b 3 hb)
 ·show RAt w' _ (pv j) (upd q.rs i x.1 j) m
  by_cases hji:j=i
  ·subst hji
   rw [pQ];refine r1.mono (fun b hb=> ?_) (fun b hb=>hlab b _ hb)
   rcases k1 b hb with hq|hq
   ·exact hold _ b hq
   ·show qJ w lab F' Ge j b=_
    unfold qJ;rw [if_neg oy,if_pos hb]
  ·rw [upd_ne hji]
   exact (((h.zy j hj).fr fr fun b hb=>hap (10+j) b oy hb).more hnm).mono (hold (10+j)) (fun b hb=>hlab b _ hb)
 ·exact h.ok.put hi r1.ok h1 h2 (fun m hm=>by cases hm)
 ·refine m1.wide (fun b hb=> ?_) (fun b hb hp=> ?_) (fun b hb=>hlab b 3 hb)
  ·have hbn:=k2 b (m3 b hb)
   show qJ w lab F' Ge i b=_
   unfold qJ;rw [if_neg oy,if_neg (fun hh=>k3 b hh (m3 b hb)),if_pos hb]
  ·have hp:qJ w lab F' Ge i b=some 3:=hp
   rw [auq b hb] at hp
   cases hp
end
end
section
theorem ae7:∀(ms:List Ms) (vs:List Value) (k:Nat),vs.length=ms.length→(msV ms vs).take (k*9)=msV (ms.take k) (vs.take k):=by
 intro ms
 induction ms with
 |nil=>intro vs k h;simp [msV]
 |cons m ms ih=>
  intro vs k h
  rcases vs with _|⟨v,vs⟩
  ·simp at h
  ·rcases k with _|k
   ·simp [msV]
   ·have hl:(m.cells v).length=9:=rfl
    simp only [msV,List.take_succ_cons];rw [List.take_append,hl,List.take_of_length_le oy,show (k+1)*9-9=k*9 from by omega,ih vs k (by simpa using h)]
theorem ae9:∀(ms:List Ms) (vs:List Value) (k:Nat),vs.length=ms.length→(msV ms vs).drop (k*9)=msV (ms.drop k) (vs.drop k):=by
 intro ms
 induction ms with
 |nil=>intro vs k h;simp [msV]
 |cons m ms ih=>
  intro vs k h
  rcases vs with _|⟨v,vs⟩
  ·simp at h
  ·rcases k with _|k
   ·simp
   ·have hl:(m.cells v).length=9:=rfl
    simp only [msV,List.drop_succ_cons];rw [List.drop_append,hl,List.drop_of_length_le oy,show (k+1)*9-9=k*9 from by omega,ih vs k (by simpa using h),List.nil_append]
theorem yL:∀(a b:List Ms) (va vb:List Value),va.length=a.length→msV (a++b) (va++vb)=msV a va++msV b vb:=by
 intro a
 induction a with
 |nil=>intro b va vb h;obtain rfl:va=[]:=List.eq_nil_of_length_eq_zero h;simp [msV]
 |cons m a ih=>
  intro b va vb h
  rcases va with _|⟨v,va⟩
  ·simp at h
  ·simp only [List.cons_append,msV,List.append_assoc]
   rw [ih b va vb (by simpa using h)]
theorem ae8:∀(ms:List Ms) (vs:List Value),(∀v∈vs,v.oneCell' =true)→∀u∈msV ms vs,u.oneCell' =true:=by
 intro ms
 induction ms with
 |nil=>intro vs _ u hu;cases vs<;>cases hu
 |cons m ms ih=>
  intro vs h u hu
  rcases vs with _|⟨v,vs⟩
  ·cases hu
  ·simp only [msV] at hu
   rcases List.mem_append.1 hu with hu|hu
   ·simp only [Ms.cells,List.mem_cons,List.not_mem_nil,or_false] at hu
    rcases hu with rfl|rfl|rfl|rfl|rfl|rfl|rfl|rfl|rfl
    all_goals first|rfl|exact h _ (by simp)
   ·exact ih vs (fun x hx=>h x (by simp [hx])) u hu
section
variable {w w' :World}{Gs Ge:Nat→Prop}{v v' :Value}{ms:List Ms}{vs:List Value}
theorem Ent.slc {G:Nat→Prop}{x:Value}{es:List Lg}(h:Ent w G x es):x.oneCell' =true:=by
 obtain ⟨A,c,rfl,-⟩:=h
 rfl
theorem iU.avu (h:iU w Gs Ge v ms vs):∀x∈vs,x.oneCell' =true:=by
 intro x hx;obtain ⟨i,hi,he⟩:=List.mem_iff_getElem.1 hx;have hx' :vs[i]? =some x:=by rw [List.getElem?_eq_getElem hi,he]
 obtain ⟨m,hm⟩:∃m,ms[i]? =some m:=⟨_,List.getElem?_eq_getElem (by rw [←h.len];exact hi)⟩;exact (h.each i m x hm hx').slc
theorem iU.erase (h:iU w Gs Ge v ms vs){i:Nat}(hi:i<ms.length){k:Nat}(hf:Fr Gs w w')(ho:aA w' Gs TMs 9 v' k ((msV ms vs).take (i*9)++(msV ms vs).drop ((i+1)*9)))(hk:k+1=ms.length):iU w' Gs Ge v' (ms.eraseIdx i) (vs.eraseIdx i):=by
 have hl:=h.len;refine ⟨?_,?_,fun j m x hm hx=> ?_,h.apart,fun b hb=>nll (h.ltS b hb) hf.size,fun b hb=>nll (h.ltE b hb) hf.size⟩
 ·rw [ae7 _ _ _ hl,ae9 _ _ _ hl,←yL _ _ _ _ (by simp [hl]),←List.eraseIdx_eq_take_drop_succ,←List.eraseIdx_eq_take_drop_succ] at ho
  rw [List.length_eraseIdx,if_pos hi,show ms.length-1=k from by omega];exact ho
 ·rw [List.length_eraseIdx,List.length_eraseIdx,hl]
 ·rw [List.getElem?_eraseIdx] at hm hx
  split at hm
  ·rw [if_pos ‹_›] at hx
   exact (h.each j m x hm hx).fr hf fun b hb hg=>h.apart b hg hb
  ·rw [if_neg ‹_›] at hx
   exact (h.each (j+1) m x hm hx).fr hf fun b hb hg=>h.apart b hg hb
end
section
variable {w w' :World}{lab lab' :Nat→Option Nat}{z n m:Nat}{pv:Nat→Nat}{q:Qs}{F:Nat→Prop}
theorem bn {j k:Nat}(h:j≠k):∀b,part lab j b→¬part lab k b:=fun b hj hk=>by
 have hj:lab b=some j:=hj;have hk:lab b=some k:=hk;rw [hj] at hk;injection hk with hk;exact h hk
theorem QAt.vZ {Ar:Option Addr}{cr:Nat}{NV NV' DV:Value}{ai3 :List Ms}{vs' :List Value}(h:QAt w lab z pv q n)(h1:Blk w z qK #[.slice Ar q.n cr,NV,DV])
  (h2:Own w (part lab 1) TPR (.slice Ar q.n cr) ((List.range q.n).map fun i=> .pointer (some ⟨pv i,0,none⟩))) (h4:aA w (part lab 4) 105 9 DV q.done.length (lF q.done))
  (hf:Fr (fun b=>lab b=some 0∨lab b=some 2) w w') (ho:∀b,b<w.heap.size→lab' b=lab b) (hn:∀b k,w.heap.size≤b→lab' b=some k→k=2∧b<w'.heap.size)
  (hz:Blk w' z qK #[.slice Ar q.n cr,NV',DV]) (hm:iU w' (part lab' 2) (part lab' 3) NV' ai3 vs') (hok:tF {q with net:=ai3}):QAt w' lab' z pv {q with net:=ai3} n:=by
 have hd:∀k,k≠0→k≠2→∀b,part lab k b→¬(lab b=some 0∨lab b=some 2):=fun k k0 k2 b hb hh=>by
  rcases hh with hh|hh
  ·exact bn k0 b hb hh
  ·exact bn k2 b hb hh
 have hold:∀k b,lab b=some k→part lab' k b:=fun k b hb=>by
  show lab' b=some k
  rw [ho b (h.lt b k hb)];exact hb
 have hlt:∀b k,lab' b=some k→b<w'.heap.size:=fun b k hb=>by
  rcases Nat.lt_or_ge b w.heap.size with hl|hl
  ·exact nll hl hf.size
  ·exact (hn b k hl hb).2
 refine ⟨hlt,⟨Ar,cr,NV',DV,vs',hz,(h2.fr hf (hd 1 oy oy)).mono (hold 1),hm,(h4.fr' hf fun g hg=>hd 4 oy oy g (h4.2 g hg)).mono (hold 4)⟩,hold 0 z h.z0,fun i hi=> ?_,hok⟩;exact ((h.zy i hi).fr hf (hd (10+i) oy oy)).mono (hold (10+i)) (fun b hb=>hlt b _ hb)
theorem tF.vZ (h:tF q){ai3 :List Ms}(h1:ai3.length≤256)(h2:∀m∈ai3,kD q.n m):tF {q with net:=ai3}:=⟨h.pos,h.five,h.each,h1,h2,h.done⟩
end
end
section
section
variable {w w' :World}{lab lab' :Nat→Option Nat}{z n m:Nat}{pv:Nat→Nat}{q:Qs}{F:Nat→Prop}
theorem QAt.pushed {Ar:Option Addr}{cr:Nat}{NV DV v' x:Value}{vs:List Value}{W W' :World}{m:Ms}(h:QAt w lab z pv q n)(h1:Blk w z qK #[.slice Ar q.n cr,NV,DV])
  (h2:Own w (part lab 1) TPR (.slice Ar q.n cr) ((List.range q.n).map fun i=> .pointer (some ⟨pv i,0,none⟩))) (h3:iU w (part lab 2) (part lab 3) NV q.net vs) (h4:aA w (part lab 4) 105 9 DV q.done.length (lF q.done))
  (hf:Fr No w W) (ha:aJ W 0 TMs 9 NV q.net.length (msV q.net vs) (m.cells x) 1 v' W') (hx:Ent w (part lab 3) x m.es) (hto:kD q.n m) (hlt:q.net.length<256):
  ∃lab',QAt (W'.setCell ⟨z,1,none⟩ v') lab' z pv {q with net:=q.net++[m]} n∧(∀b,b<w.heap.size→lab' b=lab b)∧(∀b k,w.heap.size≤b→lab' b=some k→k=2)∧Fr (fun b=>lab b=some 0∨lab b=some 2) w (W'.setCell ⟨z,1,none⟩ v'):=by
 obtain ⟨o1,f1⟩:=(h3.own.au hf).appended ha;have hsz:=hf.size;have hsz2:=f1.size;have hzl:=h.lt z 0 h.z0;obtain ⟨lab',hlab⟩:∃lab' :Nat→Option Nat,lab' =fun b=>if b<w.heap.size then lab b else if b=W.heap.size∧b<W'.heap.size then some 2 else none:=⟨_,rfl⟩
 have ho:∀b,b<w.heap.size→lab' b=lab b:=fun b hb=>by rw [hlab];exact if_pos hb
 have hn:∀b k,w.heap.size≤b→lab' b=some k→k=2∧b<W'.heap.size:=fun b k hb hk=>by
  rw [hlab] at hk;simp only at hk;rw [if_neg oy] at hk
  split at hk
  ·rename_i hh
   injection hk with hk;exact ⟨hk.symm,hh.2⟩
  ·cases hk
 have hlt' :∀b k,lab' b=some k→b<W'.heap.size:=fun b k hb=>by
  rcases Nat.lt_or_ge b w.heap.size with hl|hl
  ·omega
  ·exact (hn b k hl hb).2
 have hold:∀k b,lab b=some k→part lab' k b:=fun k b hb=>by
  show lab' b=some k
  rw [ho b (h.lt b k hb)];exact hb
 have hfF:Fr (part lab 2) w W' :=(hf.mono (G:=part lab 2) fun _ hi=>hi.elim).trans f1 fun b hb=> .inl hb;have hfz:Fr (fun b=>b=z) W' (W'.setCell ⟨z,1,none⟩ v'):=gU W' ⟨z,1,none⟩ v';have hf2:Fr (fun b=>lab b=some 0∨lab b=some 2) w (W'.setCell ⟨z,1,none⟩ v'):=(hfF.mono fun b hb=> .inr hb).setCell (p:=⟨z,1,none⟩) (.inl (.inl h.z0)) _;have hz1:Blk W' z qK #[.slice Ar q.n cr,NV,DV]:=h1.fr hfF (bn (show (0:Nat)≠2 by omega) z h.z0);have hne:∀k,k≠0→∀b,part lab' k b→¬b=z:=fun k hk b hb e=>by
  have hb:lab' b=some k:=hb;rw [e,ho z hzl,h.z0] at hb;injection hb with hb;exact hk hb.symm
 have hcells:(m.cells x).length=1*9:=rfl;have ams:iU W' (part lab' 2) (part lab' 3) v' (q.net++[m]) (vs++[x]):=by
  refine ⟨?_,by simp [h3.len],fun i m' x' hm hx' => ?_,bn (show (2:Nat)≠3 by omega),fun b hb=>hlt' b 2 hb,fun b hb=>hlt' b 3 hb⟩
  ·rw [wO _ _ _ _ h3.len,List.length_append,List.length_singleton]
   refine o1.mono fun b hb=> ?_
   rcases hb with hb|hb
   ·exact hold 2 b hb
   ·show lab' b=some 2
    rw [hlab];simp only;rw [if_neg oy,if_pos hb]
  ·rcases Nat.lt_or_ge i q.net.length with hi|hi
   ·rw [List.getElem?_append_left hi] at hm
    rw [List.getElem?_append_left (by rw [h3.len];exact hi)] at hx';exact ((h3.each i m' x' hm hx').fr hfF (bn (show (3:Nat)≠2 by omega))).mono (hold 3)
   ·rw [List.getElem?_append_right hi] at hm
    rw [List.getElem?_append_right (by rw [h3.len];exact hi)] at hx';have hi0:i-q.net.length=0:=by
     have:=(List.getElem?_eq_some_iff.1 hm).1
     simp at this;omega
    rw [hi0] at hm;rw [h3.len,hi0] at hx'
    simp at hm hx'
    subst hm hx';exact (hx.fr hfF (bn (show (3:Nat)≠2 by omega))).mono (hold 3)
 have hok:tF {q with net:=q.net++[m]}:=h.ok.vZ (by simp;omega) fun m' hm' =>by
  rcases List.mem_append.1 hm' with hm' |hm'
  ·exact h.ok.msgs m' hm'
  ·simp at hm';rw [hm'];exact hto
 refine ⟨lab',h.vZ h1 h2 h4 hf2 ho (fun b k hb hk=> ?_) ((hz1.aC 1 _).conv rfl) (ams.fr hfz (hne 2 oy) (hne 3 oy)) hok,ho,fun b k hb hk=>(hn b k hb hk).1,hf2⟩;have:=hn b k hb hk;exact ⟨this.1,nll this.2 hfz.size⟩
theorem QAt.dropped {Ar:Option Addr}{cr:Nat}{A:Option Addr}{c:Nat}{DV:Value}{vs:List Value}{W W' :World}(h:QAt w lab z pv q n)(h1:Blk w z qK #[.slice Ar q.n cr,.slice A q.net.length c,DV])
  (h2:Own w (part lab 1) TPR (.slice Ar q.n cr) ((List.range q.n).map fun i=> .pointer (some ⟨pv i,0,none⟩))) (h3:iU w (part lab 2) (part lab 3) (.slice A q.net.length c) q.net vs) (h4:aA w (part lab 4) 105 9 DV q.done.length (lF q.done))
  (hf:Fr No w W) {k:Nat} (hk:k+1=q.net.length) (hfd:Fr (part lab 2) W W') (ho:aA W' (part lab 2) TMs 9 (.slice A k c) k ((msV q.net vs).take (0*9)++(msV q.net vs).drop ((0+1)*9))):
  QAt (W'.setCell ⟨z,1,none⟩ (.slice A k c)) lab z pv (q.remove 0) n∧Fr (fun b=>lab b=some 0∨lab b=some 2) w (W'.setCell ⟨z,1,none⟩ (.slice A k c)):=by
 have hfF:Fr (part lab 2) w W' :=(hf.mono (G:=part lab 2) fun _ hi=>hi.elim).trans hfd fun b hb=> .inl hb;have hm:=h3.erase oy hfF ho hk;have hz1:Blk W' z qK #[.slice Ar q.n cr,.slice A q.net.length c,DV]:=h1.fr hfF (bn (show (0:Nat)≠2 by omega) z h.z0);have hf2:Fr (fun b=>lab b=some 0∨lab b=some 2) w (W'.setCell ⟨z,1,none⟩ (.slice A k c)):=(hfF.mono fun b hb=> .inr hb).setCell (p:=⟨z,1,none⟩) (.inl (.inl h.z0)) _;have hm2:iU (W'.setCell ⟨z,1,none⟩ (.slice A k c)) (part lab 2) (part lab 3) (.slice A k c) (q.net.eraseIdx 0) (vs.eraseIdx 0):=
  hm.fr (gU W' ⟨z,1,none⟩ _) (fun b hb e=>bn (show (2:Nat)≠0 by omega) b hb (e▸h.z0)) (fun b hb e=>bn (show (3:Nat)≠0 by omega) b hb (e▸h.z0))
 exact ⟨h.vZ h1 h2 h4 hf2 (fun _ _=>rfl) (fun b k hb hk=>absurd (h.lt b k hk) oy) ((hz1.aC 1 _).conv rfl) hm2 (h.ok.remove 0),hf2⟩
def jB (w:World)(lab:Nat→Option Nat)(z:Nat)(pv:Nat→Nat)(q:Qs)(n:Nat)(l:List Ms)(k:Nat)(W:World):Prop:=
 ∃lab',QAt W lab' z pv {q with net:=sendAll q.net (l.take k)} n∧(∀b,b<w.heap.size→lab' b=lab b)∧(∀b j,w.heap.size≤b→lab' b=some j→j=2)∧Fr (fun b=>lab b=some 0∨lab b=some 2) w W∧W.cell? ⟨z,0,none⟩=w.cell? ⟨z,0,none⟩
theorem jB.next {cZ:Nat→Option Nat}{wr W2 W W' :World}{l:List Ms}{k:Nat}{m:Ms}{Q2:Qs}{Ar:Option Addr}{cr:Nat}{NV DV v' x:Value}{vs:List Value}
  (hl1:∀b,b<w.heap.size→cZ b=lab b) (hl2:∀b j,w.heap.size≤b→cZ b=some j→j=2) (hfr:Fr (fun b=>lab b=some 0∨lab b=some 2) w wr) (hf2:Fr (fun b=>cZ b=some 0∨cZ b=some 2) wr W2)
  (h:QAt W2 cZ z pv Q2 n) (hzc:W2.cell? ⟨z,0,none⟩=w.cell? ⟨z,0,none⟩) (h1:Blk W2 z qK #[.slice Ar Q2.n cr,NV,DV])
  (h2:Own W2 (part cZ 1) TPR (.slice Ar Q2.n cr) ((List.range Q2.n).map fun i=> .pointer (some ⟨pv i,0,none⟩))) (h3:iU W2 (part cZ 2) (part cZ 3) NV Q2.net vs) (h4:aA W2 (part cZ 4) 105 9 DV Q2.done.length (lF Q2.done))
  (hx:Ent W2 (part cZ 3) x m.es) (hto:kD Q2.n m) (hlt:Q2.net.length<256) (hnext:{Q2 with net:=Q2.net++[m]}={q with net:=sendAll q.net (l.take (k+1))})
  (hf:Fr No W2 W) (ha:aJ W 0 TMs 9 NV Q2.net.length (msV Q2.net vs) (m.cells x) 1 v' W'):jB w lab z pv q n l (k+1) (W'.setCell ⟨z,1,none⟩ v')∧Fr (part cZ 2) W2 W' :=by
 obtain ⟨dW,a1,a2,a3,a4⟩:=h.pushed h1 h2 h3 h4 hf ha hx hto hlt;rw [hnext] at a1;have hs1:=hfr.size;have hs2:=hf2.size;have hpush:∀b,cZ b=some 0∨cZ b=some 2→(lab b=some 0∨lab b=some 2)∨w.heap.size≤b:=fun b hb=>by
  rcases Nat.lt_or_ge b w.heap.size with hl|hl
  ·rw [hl1 b hl] at hb
   exact .inl hb
  ·exact .inr hl
 refine ⟨⟨dW,a1,fun b hb=>(a2 b oy).trans (hl1 b hb),fun b j hb hj=> ?_,(hfr.trans hf2 hpush).trans a4 hpush,?_⟩,((hf.mono (G:=part cZ 2) fun _ hi=>hi.elim).trans ((h3.own.au hf).appended ha).2 fun b hb=> .inl hb)⟩
 ·rcases Nat.lt_or_ge b W2.heap.size with hl|hl
  ·rw [a2 b hl] at hj
   exact hl2 b j hb hj
  ·exact a3 b j hl hj
 ·have hp:Fr (part cZ 2) W2 W' :=((hf.mono (G:=part cZ 2) fun _ hi=>hi.elim).trans ((h3.own.au hf).appended ha).2 fun b hb=> .inl hb)
  rw [World.cell?_setCell_other _ _ _ _ (by simp),hp.cell (p:=⟨z,0,none⟩) (h.lt z 0 h.z0) (bn (show (0:Nat)≠2 by omega) z h.z0)];exact hzc
set_option maxHeartbeats 8000000 in
theorem ali (h:QAt w lab z pv q n){l:List Ms}{A:Option Addr}{c:Nat}{vs:List Value}{Gs:Nat→Prop}(hl:iU w Gs (part lab 3) (.slice A l.length c) l vs)(hG:∀b,Gs b→lab b=none)(hto:∀m∈l,kD q.n m)(hll:l.length≤1000):
  Calls Tryz.prog 202 #[.pointer (some ⟨z,0,none⟩),.slice A l.length c] w fun e w' =>e= .returned (.tuple #[])∧jB w lab z pv q n l l.length w' :=by
 obtain ⟨i1,hi1,hz0,hz1,hz2⟩:=info_parts uF;have hstart:jB w lab z pv q n l 0 w:=⟨lab,h,fun _ _=>rfl,fun b j hb hj=>absurd (h.lt b j hj) oy,Fr.refl _ _,rfl⟩;have hlt:=h.lt;have hkeep:∀W,Fr (fun b=>lab b=some 0∨lab b=some 2) w W→iU W Gs (part lab 3) (.slice A l.length c) l vs:=fun W hf=>hl.fr hf (fun b hb hh=>by rw [hG b hb] at hh;simp at hh) (fun b hb hh=>by
  rcases hh with hh|hh
  ·exact bn (show (3:Nat)≠0 by omega) b hb hh
  ·exact bn (show (3:Nat)≠2 by omega) b hb hh)
 have hzl:=h.lt z 0 h.z0;clear h hl;obtain ⟨nM,agt,HTO,HLT,HG⟩:=jq hstart hkeep hto hlt hG;clear hstart hkeep hto hlt hG
 go_in
 go_wp2_with fail
 go_loopw [8] (fun i wr=>∃k:Nat,k≤l.length∧i= .int .i64 k∧jB w lab z pv q n l k wr) (fun i _=>l.length-(intOf i).toNat)
 case atStart=>exact ⟨0,Nat.zero_le _,rfl,nM.out⟩
 case round=>
  obtain ⟨k,hk,rfl,cZ,hq,hl1,hl2,hfr,hzc⟩:=hrel;have hzc:=O hzc
  by_cases hlt:k<l.length
  ·have b1:decide (k<l.length)=true:=by simpa using hlt
   have b2:decide ((k:Int)<(l.length:Int))=true:=by simp;omega
   have hlt2:(k:Int)<(l.length:Int):=by omega
   obtain ⟨m,hm⟩:∃m,l[k]? =some m:=⟨_,List.getElem?_eq_getElem hlt⟩;have aqn:=HTO.out m (List.mem_of_getElem? hm);obtain ⟨bl,x,rfl,hbl,-,-,hxe,d0,d1,d2,d3,d4,d5,d6,d7,d8⟩:=(agt.out wr hfr).at_ hm;have hxe1:Ent wr (part cZ 3) x m.es:=hxe.lt.mono fun b hb=>by
    have h3:lab b=some 3:=hb.1
    show cZ b=some 3
    rw [hl1 b (HLT.out b 3 h3)];exact h3
   have hsn:sendAll q.net (l.take (k+1))=fT (sendAll q.net (l.take k)) m:=by rw [List.take_add_one,hm,←rC];rfl
   obtain ⟨Ar,cr,NV,DV,ns,h1,h2,h3,h4⟩:=hq.mem;have ajn:=hq.ok.net;have aos:=hq.lt z 0 hq.z0;obtain ⟨An,cn,rfl,-⟩:=h3.own.form;have hxs:=hxe1.slc;obtain ⟨Q,hQ⟩:∃Q:Qs,Q={q with net:=sendAll q.net (l.take k)}:=⟨_,rfl⟩;have hnx:({q with net:=sendAll q.net (l.take (k+1))}:Qs)={Q with net:=fT Q.net m}:=by rw [hsn,hQ]
   have hQn:Q.n=q.n:=by rw [hQ]
   rw [←hQ] at hq h1 h2 h3 h4 ajn
   change iU wr (part cZ 2) (part cZ 3) (.slice An Q.net.length cn) Q.net ns at h3
   change Blk wr z qK #[.slice Ar Q.n cr,.slice An Q.net.length cn,DV] at h1
   change Own wr (part cZ 1) TPR (.slice Ar Q.n cr) ((List.range Q.n).map fun i=> .pointer (some ⟨pv i,0,none⟩)) at h2
   change aA wr (part cZ 4) 105 9 DV Q.done.length (lF Q.done) at h4
   change Q.net.length≤256 at ajn
   rw [←hQn] at aqn;have hone:∀u∈m.cells x,u.oneCell' =true:=aa4 m hxe1;have z1:wr.cell? ⟨z,1,none⟩=some (.slice An Q.net.length cn):=h1.cell 1;have hne:wr.heap.size≠z:=by omega
   have hne2:z≠wr.heap.size:=by omega
   obtain ⟨kd,mf,mto,mt,ix,pr,cm,ok,es⟩:=m;simp only at d0 d1 d2 d3 d4 d5 d6 d7 d8 hxe1 hxe;obtain ⟨Ax,cx,rfl⟩:∃Ax cx,x= .slice Ax es.length cx:=(let ⟨A,c,e,_⟩:=hxe1;⟨A,c,e⟩);obtain ⟨W1,hW1⟩:∃W1,W1=wr.alloc (.cells #[.int .i64 kd,.int .i64 mf,.int .i64 mto,.int .i64 mt,.int .i64 ix,.int .i64 pr,.int .i64 cm,.bool ok,.slice Ax es.length cx] TMs):=⟨_,rfl⟩;obtain ⟨g,hg⟩:∃g,g=wr.heap.size:=⟨_,rfl⟩;have hb1:Blk W1 g TMs (Ms.cells ⟨kd,mf,mto,mt,ix,pr,cm,ok,es⟩ (.slice Ax es.length cx)).toArray:=by rw [hW1,hg];exact Blk.new _ _ _
   have hf1:Fr No wr W1:=by rw [hW1];exact aj _ _
   by_cases hfull:256≤Q.net.length
   ·have t1:decide (256≤Q.net.length)=true:=by simpa using hfull
    have t2:decide ((256:Int)≤(Q.net.length:Int))=true:=by simp;omega
    have hkl:0+(Q.net.length-1)+1=Q.net.length:=by omega
    have hdel:=ajx (F:=part cZ 2) (h3.au hf1).own (ae8 _ _ h3.avu) (i:=0) (r:=Q.net.length-1) oy;generalize hK:0+(Q.net.length-1)=K at*;have hKn:K<256:=by omega
    have hdrop:=fun W' (ho:aA W' (part cZ 2) TMs 9 (.slice An K cn) K ((msV Q.net ns).take (0*9)++(msV Q.net ns).drop ((0+1)*9))) (hfd:Fr (part cZ 2) W1 W')=>hq.dropped h1 h2 h3 h4 hf1 hkl hfd ho;have hz8:=fun W' (hf:Fr (part cZ 2) W1 W')=>(⟨((h1.fr hf1 id).fr hf (bn (show (0:Nat)≠2 by omega) z hq.z0)).cell 1,((h1.fr hf1 id).fr hf (bn (show (0:Nat)≠2 by omega) z hq.z0)).frozen 1⟩:W'.cell? ⟨z,1,none⟩=some (.slice An Q.net.length cn)∧W'.frozen? ⟨z,1,none⟩=false);have asz:=fun W' (hf:Fr (part cZ 2) W1 W') (X:Value)=>((World.cell?_setCell_other _ _ _ _ (by simp)).trans (((hf1.mono (G:=part cZ 2) fun _ hi=>hi.elim).trans hf fun b hb=> .inl hb).cell (p:=⟨z,0,none⟩) aos (bn (show (0:Nat)≠2 by omega) z hq.z0))|>.trans hzc.out:(W'.setCell ⟨z,1,none⟩ X).cell? ⟨z,0,none⟩=w.cell? ⟨z,0,none⟩);have hrm:(Q.remove 0).net++[(⟨kd,mf,mto,mt,ix,pr,cm,ok,es⟩:Ms)]=fT Q.net ⟨kd,mf,mto,mt,ix,pr,cm,ok,es⟩:=by
     unfold fT;rw [if_pos hfull]
     show Q.net.eraseIdx 0++_=_
     rw [List.eraseIdx_zero,List.drop_one]
    have hrl:(Q.remove 0).net.length=K:=by
     show (Q.net.eraseIdx 0).length=K
     rw [List.length_eraseIdx,if_pos oy]
     omega
    have hgn:cZ g=none:=by
     cases hlg:cZ g with
     |none=>rfl
     |some j=>exact absurd (hq.lt g j hlg) oy
    have atw:=fun W' (hf:Fr (part cZ 2) W1 W')=>(hb1.fr hf (fun (hh:cZ g=some 2)=>by rw [hgn] at hh;cases hh):Blk W' g TMs _);have hgz:g≠z:=by omega
    have hxk:=fun W' (hf:Fr (fun b=>cZ b=some 0∨cZ b=some 2) wr W')=>hxe1.fr hf fun b hb hh=>by
     rcases hh with hh|hh
     ·exact bn (show (3:Nat)≠0 by omega) b hb hh
     ·exact bn (show (3:Nat)≠2 by omega) b hb hh
    have hmc:=jk (m:=⟨kd,mf,mto,mt,ix,pr,cm,ok,es⟩) hb1;simp only at hmc;have hz1b:=hz8 W1 (Fr.refl _ _);have ahd:({Q.remove 0 with net:=(Q.remove 0).net++[(⟨kd,mf,mto,mt,ix,pr,cm,ok,es⟩:Ms)]}:Qs)={q with net:=sendAll q.net (l.take (k+1))}:=by rw [hnx,hrm];rfl
    have hpush:=fun W2 (hfw:Fr (fun b=>cZ b=some 0∨cZ b=some 2) wr W2) (hq2:QAt W2 cZ z pv (Q.remove 0) n) (hc2:W2.cell? ⟨z,0,none⟩=w.cell? ⟨z,0,none⟩) {Ar cr NV DV vs} p1 p2 p3 p4 W v' W' (hf:Fr No W2 W) ha=>jB.next (w:=w) (lab:=lab) (z:=z) (pv:=pv) (q:=q) (n:=n) (l:=l) (k:=k) (W:=W) (v' :=v') (W' :=W') (Ar:=Ar) (cr:=cr) (NV:=NV) (DV:=DV) (vs:=vs) hl1 hl2 hfr hfw hq2 hc2 p1 p2 p3 p4 (hxk W2 hfw) aqn oy ahd hf ha;clear hl1 hl2 hfr hq h1 h2 h3 h4 hxe1 hxe hnx hb1 hf1 hm hsn hQ hQn hxk hrm ahd;rw [show ((0:Nat):Int)=0 from rfl] at hdel
    change Calls _ _ #[.slice An Q.net.length cn,.int .i64 0,.int .i64 1] W1 _ at hdel
    obtain ⟨HW1,apd,aoc,HZ8,au2,avi,zx,HMC,ar1,HG,HRL⟩:=kP hW1 hdel hdrop hz8 asz atw hpush hmc hone hg hrl;clear hW1 hdel hdrop hz8 asz atw hpush hmc hone hg hrl
    go_upto_region 3 with fail
    rw [←HW1.out,←HG.out];obtain ⟨c0,c1,c2,c3,c4,c5,c6,c7,c8⟩:=HMC.out;obtain ⟨z1',-⟩:=hz1b;clear z1 d0 d1 d2 d3 d4 d5 d6 d7 d8 hne hne2
    go_wp2_with fail
    refine apd.out.mono ?_;rintro e w5 ⟨rfl,o5,f5⟩;obtain ⟨z5,y5⟩:=HZ8.out _ f5;obtain ⟨hq5,hf5⟩:=aoc.out _ o5 f5;have e5:=O (au2.out _ f5 (.slice An K cn));have hb5:=avi.out _ f5;have hb6:Blk (w5.setCell ⟨z,1,none⟩ (.slice An K cn)) g TMs _:=hb5.aG hgz _;clear c0 c1 c2 c3 c4 c5 c6 c7 c8 z1' o5 f5 hb5;obtain ⟨c0,c1,c2,c3,c4,c5,c6,c7,c8⟩:=jk (m:=⟨kd,mf,mto,mt,ix,pr,cm,ok,es⟩) hb6;simp only at c0 c1 c2 c3 c4 c5 c6 c7 c8;obtain ⟨Ar2,cr2,NV2,DV2,ns2,p1,p2,p3,p4⟩:=hq5.mem;obtain ⟨A6,c6',rfl,-⟩:=p3.own.form;have hpush:=zx.out _ hf5 hq5 e5.out p1 p2 p3 p4;have z6:(w5.setCell ⟨z,1,none⟩ (.slice An K cn)).cell? ⟨z,1,none⟩=some (.slice A6 (Q.remove 0).net.length c6'):=p1.cell 1;have ax5:=hq5.lt z 0 hq5.z0;have awo:=hb6.lt;have hown:=fun W (hf:Fr No _ W)=>(p3.au hf).own.1;have hz9:=fun W' (hf:Fr (part cZ 2) (w5.setCell ⟨z,1,none⟩ (.slice An K cn)) W')=>(⟨(p1.fr hf (bn (show (0:Nat)≠2 by omega) z hq5.z0)).cell 1,(p1.fr hf (bn (show (0:Nat)≠2 by omega) z hq5.z0)).frozen 1⟩:W'.cell? ⟨z,1,none⟩=some (.slice A6 (Q.remove 0).net.length c6')∧W'.frozen? ⟨z,1,none⟩=false);have hrl2:(Q.remove 0).net.length<256:=by rw [HRL.out];exact hKn
    clear hq5 hf5 p1 p2 p3 p4 hb6 zx apd aoc HZ8 avi au2 e5;obtain ⟨zx,HOWN,HZ9⟩:=bC hpush hown hz9;clear hpush hown hz9
    go_wp2_with fail
    generalize w5.setCell ⟨z,1,none⟩ (.slice An K cn)=W6 at*
    go_region_law (refine aI _ (by rfl) (.tmp 30) (.tmp 32) _ (by rfl) 0 TMs i1 _ 9 88 Tryz.underlying242 hi1 hz0 hz1 hz2 rfl dcd (.slice A6 (Q.remove 0).net.length c6') (Q.remove 0).net.length (msV (Q.remove 0).net ns2) (by rfl) (HOWN.out _ (((Fr.refl No _).drew).alloc _)) (W6.heap.size+1) (some ⟨W6.heap.size,0,none⟩) 1 1 (Ms.cells ⟨kd,mf,mto,mt,ix,pr,cm,ok,es⟩ (.slice Ax es.length cx)) (by rfl) (fun h=>by cases h) (Rd.new W6.drew _ TMs rfl) rfl ar1.out mxl oy (Nat.zero_le _) ?_;intro v1 w9 happ;obtain ⟨A4,c4,rfl,n4⟩:=ay happ.1;clear n4;obtain ⟨T9,F9⟩:=zx.out _ _ w9 (((Fr.refl No _).drew).alloc _) happ;obtain ⟨x9,y9⟩:=HZ9.out _ F9;have T9:=O T9;clear happ F9)
    all_goals
     go_wp2_with fail
     go_roundw
     case rel=>exact ⟨k+1,by omega,by go_num,T9.out⟩
     case measure=>simp [intOf];omega
   ·have t1:decide (256≤Q.net.length)=false:=by simpa using hfull
    have t2:decide ((256:Int)≤(Q.net.length:Int))=false:=by simp;omega
    have hown:=fun W (hf:Fr No W1 W)=>((h3.own.au hf1).au hf).1;have hpush:=fun W v' W' (hf:Fr No W1 W) ha=>jB.next (w:=w) (lab:=lab) (z:=z) (pv:=pv) (q:=q) (n:=n) (l:=l) (k:=k) (W:=W) (v' :=v') (W' :=W') hl1 hl2 hfr (hf1.mono fun _ hi=>hi.elim) (hq.au hf1) ((hf1.cell (p:=⟨z,0,none⟩) aos fun h=>h).trans hzc.out) (h1.fr hf1 id) (h2.au hf1) (h3.au hf1) (h4.au hf1) (hxe1.au hf1) aqn oy (by rw [hnx];unfold fT;rw [if_neg hfull]) hf ha;have hz9:=fun W' (hf:Fr (part cZ 2) W1 W')=>(⟨((h1.fr hf1 id).fr hf (bn (show (0:Nat)≠2 by omega) z hq.z0)).cell 1,((h1.fr hf1 id).fr hf (bn (show (0:Nat)≠2 by omega) z hq.z0)).frozen 1⟩:W'.cell? ⟨z,1,none⟩=some (.slice An Q.net.length cn)∧W'.frozen? ⟨z,1,none⟩=false);have hmc:=jk (m:=⟨kd,mf,mto,mt,ix,pr,cm,ok,es⟩) hb1;simp only at hmc;have hz1b:=hz9 W1 (Fr.refl _ _);have asy:z<W1.heap.size:=nll aos hf1.size;have fP:g<W1.heap.size:=hb1.lt;clear hl1 hl2 hfr hq h1 h2 h3 h4 hxe1 hxe hnx hb1 hf1 hm hsn hQ hQn;obtain ⟨HW1,HOWN,zx,HZ9,HMC,ar1,HG⟩:=jo hW1 hown hpush hz9 hmc hone hg;clear hW1 hown hpush hz9 hmc hone hg
    go_upto_region 3 with fail
    rw [←HW1.out,←HG.out];obtain ⟨c0,c1,c2,c3,c4,c5,c6,c7,c8⟩:=HMC.out;obtain ⟨z1',-⟩:=hz1b;clear z1 d0 d1 d2 d3 d4 d5 d6 d7 d8 hne hne2
    go_wp2_with fail
    go_region_law (refine aI _ (by rfl) (.tmp 30) (.tmp 32) _ (by rfl) 0 TMs i1 _ 9 88 Tryz.underlying242 hi1 hz0 hz1 hz2 rfl dcd (.slice An Q.net.length cn) Q.net.length (msV Q.net ns) (by rfl) (HOWN.out _ (((Fr.refl No _).drew).alloc _)) (W1.heap.size+1) (some ⟨W1.heap.size,0,none⟩) 1 1 (Ms.cells ⟨kd,mf,mto,mt,ix,pr,cm,ok,es⟩ (.slice Ax es.length cx)) (by rfl) (fun h=>by cases h) (Rd.new W1.drew _ TMs rfl) rfl ar1.out mxl oy (Nat.zero_le _) ?_;intro v1 w9 happ;obtain ⟨A4,c4,rfl,n4⟩:=ay happ.1;clear n4;obtain ⟨T9,F9⟩:=zx.out _ _ w9 (((Fr.refl No _).drew).alloc _) happ;obtain ⟨x9,y9⟩:=HZ9.out _ F9;have T9:=O T9;clear happ F9)
    all_goals
     go_wp2_with fail
     go_roundw
     case rel=>exact ⟨k+1,by omega,by go_num,T9.out⟩
     case measure=>simp [intOf];omega
  ·obtain rfl:k=l.length:=by omega
   have b1:decide (l.length<l.length)=false:=by simp
   have T9:=O (show jB w lab z pv q n l l.length wr from ⟨cZ,hq,hl1,hl2,hfr,hzc.out⟩);clear hq hl1 hl2 hfr
   go_wp2_with fail
   go_end0
   exact ⟨rfl,T9.out⟩
end
end
end Go.Proofs.YtodkhcbjpodgeaaGreat
