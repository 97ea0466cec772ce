/-
  The plain law of a quorum: what the terms, the votes and the logs of its replicas have in common, and why that stays so.
-/
import Derived.Test.YtjnfmfmglehmbaaGreatQ19
namespace Go.Proofs.YtjnfmfmglehmbaaGreat
open Go.ChangeShapes Go.WideShapes Go.ChangeAt Go.RowKit
set_option linter.unusedVariables false
set_option maxRecDepth 100000
set_option maxHeartbeats 4000000
section
structure Gh where
 el:Int→Option Nat
 gl:Int→List Lg
 acc:Nat→Int→Nat
 vt:Nat→Int→Option Nat
 vl:Nat→Int→List Lg
section
variable {n:Nat}{rs:Nat→Rs}{g g' :Gh}
def upd (rs:Nat→Rs)(q:Nat)(r:Rs):Nat→Rs:=fun i=>if i=q then r else rs i
theorem oU (rs:Nat→Rs)(q:Nat)(r:Rs):upd rs q r q=r:=if_pos rfl
theorem upd_ne {rs:Nat→Rs}{q i:Nat}{r:Rs}(h:i≠q):upd rs q r i=rs i:=if_neg h
end
end
section
structure Qs where
 n:Nat
 rs:Nat→Rs
 net:List Ms
 done:List En
def jJ (n:Nat):Qs:=⟨n,fun q=>dF q n,[],[]⟩
def eY (net:List Ms)(m:Ms):List Ms:=(if 256≤net.length then net.drop 1 else net)++[m]
def sendAll (net l:List Ms):List Ms:=l.foldl eY net
def iR (rs:Nat→Rs)(d:List En):Nat→List En
 |0=>d
 |k+1=>if (rs k).commit≤(iR rs d k).length then iR rs d k else ((rs k).js.log.take (rs k).commit).map (·.e)
def Qs.note (q:Qs):Qs:={q with done:=iR q.rs q.done q.n}
def Qs.put (q:Qs)(i:Nat)(x:Rs×List Ms):Qs:={q with rs:=upd q.rs i x.1,net:=sendAll q.net x.2}
def Qs.remove (q:Qs)(i:Nat):Qs:={q with net:=q.net.eraseIdx i}
def Qs.give (q:Qs)(m:Ms):Qs:=q.put m.to_.toNat ((q.rs m.to_.toNat).handle m)
def Qs.permits (q:Qs)(kind who num:Int):Bool:=
 if kind=1∨kind=2∨kind=3∨kind=7 then decide (0≤who∧who<q.n) else
 if kind=4∨kind=5∨kind=6 then decide (0≤num∧num<q.net.length) else false
def aq7:Ms:=⟨0,0,0,0,0,0,0,false,[]⟩
def Qs.at_ (q:Qs)(i:Int):Ms:=(q.net[i.toNat]?).getD aq7
def Qs.jh (q:Qs)(kind who num:Int)(e:En):Int:=
 if q.permits kind who num=false then 1 else if kind=2 then (q.rs who.toNat).fH e else 0
def Qs.act (q:Qs)(kind who num:Int)(e:En):Qs:=
 if q.jh kind who num e≠0 then q else
 (if kind=1 then q.put who.toNat (q.rs who.toNat).aJ else
  if kind=2 then q.put who.toNat ((q.rs who.toNat).propose e) else
  if kind=3 then q.put who.toNat (q.rs who.toNat,(q.rs who.toNat).nD) else
  if kind=4 then (q.remove num.toNat).give (q.at_ num) else
  if kind=5 then q.give (q.at_ num) else
  if kind=6 then q.remove num.toNat else q.put who.toNat ((q.rs who.toNat).crash,[])).note
def ae4 (up:Int)(m:Ms):Prop:=¬((up >>> m.from_.toNat) % 2=0∨(up >>> m.to_.toNat) % 2=0)
instance (up:Int) (m:Ms):Decidable (ae4 up m):=by unfold ae4;infer_instance
inductive Flushes (up:Int):Qs→Nat→Qs→Nat→Prop
 |stop (q:Qs) (k:Nat) (h:q.net=[]∨5000≤k):Flushes up q k q k
 |skip (q:Qs) (k:Nat) (m:Ms) (l:List Ms) (q' :Qs) (k' :Nat) (hk:k<5000) (hm:q.net=m :: l) (h:¬ae4 up m) (hn:Flushes up (q.remove 0) k q' k'):Flushes up q k q' k'
 |give (q:Qs) (k:Nat) (m:Ms) (l:List Ms) (q' :Qs) (k' :Nat) (hk:k<5000) (hm:q.net=m :: l) (h:ae4 up m) (hn:Flushes up ((q.remove 0).give m).note (k+1) q' k'):Flushes up q k q' k'
structure fI (n:Nat) (m:Ms):Prop where
 to_:∃t:Nat,t<n∧m.to_=t
 from_:∃t:Nat,t<n∧m.from_=t
 es:∀x∈m.es,x.e.ok
 few:m.es.length≤4096
structure lu (q:Qs):Prop where
 pos:0<q.n
 five:q.n≤5
 each:∀i,i<q.n→bU (q.rs i)∧(q.rs i).id=i∧(q.rs i).n=q.n
 net:q.net.length≤256
 msgs:∀m∈q.net,fI q.n m
 done:q.done.length≤4096
theorem wW (net:List Ms)(m:Ms)(h:net.length≤256):(eY net m).length≤256:=by
 unfold eY
 split<;>simp<;>omega
theorem wV {net:List Ms}{m x:Ms}(h:x∈eY net m):x∈net∨x=m:=by
 unfold eY at h
 rcases List.mem_append.1 h with h|h
 ·split at h
  ·exact .inl (List.mem_of_mem_drop h)
  ·exact .inl h
 ·simp at h;exact .inr h
theorem wY (l:List Ms):∀net:List Ms,net.length≤256→(sendAll net l).length≤256:=by
 induction l with
 |nil=>exact fun net h=>h
 |cons m l ih=>exact fun net h=>ih _ (wW net m h)
theorem wX (l:List Ms):∀{net:List Ms} {x:Ms},x∈sendAll net l→x∈net∨x∈l:=by
 induction l with
 |nil=>exact fun h=> .inl h
 |cons m l ih=>
  intro net x h
  rcases ih (show x∈sendAll (eY net m) l from h) with h|h
  ·rcases wV h with h|h
   ·exact .inl h
   ·exact .inr (by rw [h];simp)
  ·exact .inr (by simp [h])
theorem oF (net l:List Ms)(m:Ms):sendAll net (l++[m])=eY (sendAll net l) m:=by simp [sendAll]
theorem ac9 {rs:Nat→Rs}{d:List En}(hd:d.length≤4096):∀k,(∀i,i<k→bU (rs i))→(iR rs d k).length≤4096:=by
 intro k
 induction k with
 |zero=>exact fun _=>hd
 |succ k ih=>
  intro h;simp only [iR]
  split
  ·exact ih fun i hi=>h i oy
  ·have:=(h k oy).log.few
   simp only [List.length_map,List.length_take]
   omega
section
variable {r:Rs}
theorem bU.ahs (h:bU r){dst:Nat}(hto:dst<r.n):fI r.n (r.app dst):=
 ⟨⟨dst,hto,rfl⟩,⟨r.id,h.idn,rfl⟩,fun x hx=>(h.log.each x (List.mem_of_mem_drop hx)).2.2.2,by
  show (r.js.log.drop (r.next dst)).length≤4096
  have:=h.log.few;rw [List.length_drop]
  omega⟩
theorem bU.tN (h:bU r):∀m∈r.gF,fI r.n m:=by
 intro m hm;unfold Rs.gF at hm;obtain ⟨dst,h1,rfl⟩:=List.mem_map.1 hm;exact h.ahs (kP.1 h1).1
theorem fI.plain {n:Nat}{m:Ms}(h1:∃t:Nat,t<n∧m.to_=t)(h2:∃t:Nat,t<n∧m.from_=t)(h3:m.es=[]):fI n m:=⟨h1,h2,(fun x hx=>by rw [h3] at hx;cases hx),by rw [h3];simp⟩
theorem bH.zC {m:Ms}(hm:bH r m):∃t:Nat,t<r.n∧m.from_=t:=⟨m.from_.toNat,by have:=hm.f0;have:=hm.f1;omega,by have:=hm.f0;omega⟩
theorem nk (h:bU r){m:Ms}(hm:bH r m)(i:Int)(ok:Bool):∀x∈r.answer m.from_ i ok,fI r.n x:=by
 intro x hx;simp only [Rs.answer,List.mem_singleton] at hx;subst hx;exact fI.plain hm.zC ⟨r.id,h.idn,rfl⟩ rfl
theorem bU.xM (h:bU r){m:Ms}(hm:bH r m):∀x∈(r.aK m).2,fI r.n x:=by
 unfold Rs.aK
 split
 ·exact nk h hm _ _
 ·split
  ·exact fun x hx=>by cases hx
  ·split
   ·exact nk h hm _ _
   ·split
    ·split
     ·exact fun x hx=>by cases hx
     ·exact nk h hm _ _
    ·exact nk h hm _ _
theorem bU.afa (h:bU r){m:Ms}(hm:bH r m):∀x∈(r.takes m).2,fI r.n x:=by
 unfold Rs.takes
 split
 ·unfold Rs.dK
  intro x hx;simp only [List.mem_singleton] at hx;subst hx;exact fI.plain hm.zC ⟨r.id,h.idn,rfl⟩ rfl
 ·split
  ·unfold Rs.bW
   split
   ·exact fun x hx=>by cases hx
   ·split
    ·exact fun x hx=>by cases hx
    ·exact (h.zO hm).lead.tN
  ·split
   ·exact h.xM hm
   ·have hs:=h.aR (m:=m)
    revert hs;unfold Rs.aR
    split
    ·exact fun _ x hx=>by cases hx
    ·split
     ·intro hs x hx
      simp only [List.mem_singleton] at hx;subst hx;have h0:=hm.f0;have h1:=hm.f1;exact hs.ahs (dst:=m.from_.toNat) (by simp only;omega)
     ·split
      ·exact fun _ x hx=>by cases hx
      ·exact fun _ x hx=>by cases hx
theorem bU.kr (h:bU r){m:Ms}:∀x∈(r.handle m).2,fI r.n x:=by
 unfold Rs.handle
 split
 ·exact fun x hx=>by cases hx
 ·rename_i hp
  have hm:bH r m:=Rs.cB.1 (by simpa using hp);have:=(h.meets m.term hm.t1).afa (hm.kQ m.term);rw [(uz r m.term).2.1] at this;exact this
theorem bU.mE (h:bU r):∀x∈r.aJ.2,fI r.n x:=by
 unfold Rs.aJ
 split
 ·exact fun x hx=>by cases hx
 ·split
  ·exact fun x hx=>by cases hx
  ·intro x hx
   obtain ⟨dst,h1,rfl⟩:=List.mem_map.1 hx;exact fI.plain ⟨dst,(kP.1 h1).1,rfl⟩ ⟨r.id,h.idn,rfl⟩ rfl
theorem bU.nJ (h:bU r)(e:En)(he:e.ok):∀x∈(r.propose e).2,fI r.n x:=by
 unfold Rs.propose
 split
 ·exact (h.proposed e he).tN
 ·exact fun x hx=>by cases hx
theorem bU.yu (h:bU r):∀x∈r.nD,fI r.n x:=by
 unfold Rs.nD
 split
 ·exact fun x hx=>by cases hx
 ·exact h.tN
theorem jm (r:Rs):r.aJ.1.id=r.id∧r.aJ.1.n=r.n:=by
 unfold Rs.aJ
 split
 ·exact ⟨rfl,rfl⟩
 ·split<;>exact ⟨rfl,rfl⟩
theorem fQ (r:Rs)(e:En):(r.propose e).1.id=r.id∧(r.propose e).1.n=r.n:=by
 unfold Rs.propose
 split<;>exact ⟨rfl,rfl⟩
theorem aag (r:Rs)(m:Ms):(r.aK m).1.id=r.id∧(r.aK m).1.n=r.n:=by
 unfold Rs.aK
 split
 ·exact ⟨rfl,rfl⟩
 ·split
  ·exact ⟨rfl,rfl⟩
  ·split
   ·exact ⟨rfl,rfl⟩
   ·split
    ·split<;>exact ⟨rfl,rfl⟩
    ·exact ⟨rfl,rfl⟩
theorem ah1 (r:Rs)(m:Ms):(r.takes m).1.id=r.id∧(r.takes m).1.n=r.n:=by
 unfold Rs.takes
 split
 ·unfold Rs.dK
  simp only
  split<;>exact ⟨rfl,rfl⟩
 ·split
  ·unfold Rs.bW
   split
   ·exact ⟨rfl,rfl⟩
   ·split<;>exact ⟨rfl,rfl⟩
  ·split
   ·exact aag r m
   ·unfold Rs.aR
    split
    ·exact ⟨rfl,rfl⟩
    ·split
     ·exact ⟨rfl,rfl⟩
     ·split<;>exact ⟨rfl,rfl⟩
theorem iA (r:Rs)(m:Ms):(r.handle m).1.id=r.id∧(r.handle m).1.n=r.n:=by
 unfold Rs.handle
 split
 ·exact ⟨rfl,rfl⟩
 ·have:=ah1 (r.meets m.term) m
  have h2:=uz r m.term;exact ⟨this.1.trans h2.1,this.2.trans h2.2.1⟩
end
section
variable {q:Qs}
theorem lu.put (h:lu q){i:Nat}(hi:i<q.n){x:Rs×List Ms}(h1:bU x.1)(h2:x.1.id=(q.rs i).id)(h3:x.1.n=(q.rs i).n)(h4:∀m∈x.2,fI q.n m):lu (q.put i x):=by
 refine ⟨h.pos,h.five,fun j hj=> ?_,wY _ _ h.net,fun m hm=> ?_,h.done⟩
 ·show bU (upd q.rs i x.1 j)∧(upd q.rs i x.1 j).id=j∧(upd q.rs i x.1 j).n=q.n
  by_cases e:j=i
  ·subst e
   rw [oU,h2,h3];exact ⟨h1,(h.each j hj).2⟩
  ·rw [upd_ne e];exact h.each j hj
 ·rcases wX _ hm with hm|hm
  ·exact h.msgs m hm
  ·exact h4 m hm
theorem lu.remove (h:lu q)(i:Nat):lu (q.remove i):=
 ⟨h.pos,h.five,h.each,by
  show (q.net.eraseIdx i).length≤256
  have:=h.net;have:=List.length_eraseIdx_le q.net i
  omega,fun m hm=>h.msgs m (List.mem_of_mem_eraseIdx hm),h.done⟩
theorem lu.note (h:lu q):lu q.note:=⟨h.pos,h.five,h.each,h.net,h.msgs,ac9 h.done _ fun i hi=>(h.each i hi).1⟩
theorem lu.give (h:lu q){m:Ms}(hm:fI q.n m):lu (q.give m):=by
 obtain ⟨t,ht,he⟩:=hm.to_;unfold Qs.give;rw [he,Int.toNat_natCast];obtain ⟨h1,h2,h3⟩:=h.each t ht;obtain ⟨n1,n2⟩:=iA (q.rs t) m;exact h.put ht (h1.handle hm.es) n1 n2 (by have:=h1.kr (m:=m);rw [h3] at this;exact this)
theorem at_mem {q:Qs}{i:Int}(h0:0≤i)(h1:i<q.net.length):q.at_ i∈q.net∧q.net[i.toNat]? =some (q.at_ i):=by
 unfold Qs.at_;obtain ⟨x,hx⟩:∃x,q.net[i.toNat]? =some x:=⟨_,List.getElem?_eq_getElem oy⟩;rw [hx];exact ⟨List.mem_of_getElem? hx,rfl⟩
theorem mg {q:Qs}{kind who num:Int}(h:q.permits kind who num=true)(hk:kind=1∨kind=2∨kind=3∨kind=7):0≤who∧who<q.n:=by
 unfold Qs.permits at h;rw [if_pos hk] at h
 simpa using h
theorem jA {q:Qs}{kind who num:Int}(h:q.permits kind who num=true)(hk:kind=4∨kind=5∨kind=6):0≤num∧num<q.net.length:=by
 unfold Qs.permits at h;rw [if_neg oy,if_pos hk] at h
 simpa using h
theorem jW {q:Qs}{kind who num:Int}(h:q.permits kind who num=true):(kind=1∨kind=2∨kind=3∨kind=7)∨(kind=4∨kind=5∨kind=6):=by
 unfold Qs.permits at h
 split at h
 ·exact .inl ‹_›
 ·split at h
  ·exact .inr ‹_›
  ·cases h
theorem wJ {q:Qs}{kind who num:Int}{e:En}(h:¬q.jh kind who num e≠0):q.permits kind who num=true:=by
 cases hp:q.permits kind who num
 ·exact absurd (by unfold Qs.jh;rw [if_pos hp];decide) h
 ·rfl
theorem lu.act (h:lu q)(kind who num:Int)(e:En)(he:e.ok):lu (q.act kind who num e):=by
 unfold Qs.act
 split
 ·exact h
 ·rename_i h0
  have hp:=wJ h0;have hw:(kind=1∨kind=2∨kind=3∨kind=7)→who.toNat<q.n:=fun hk=>by have:=mg hp hk;omega
  apply lu.note
  split
  ·rename_i hk
   have hi:=hw (.inl hk);obtain ⟨h1,h2,h3⟩:=h.each _ hi;obtain ⟨n1,n2⟩:=jm (q.rs who.toNat);exact h.put hi h1.aJ n1 n2 (by have:=h1.mE;rw [h3] at this;exact this)
  ·split
   ·rename_i hk
    have hi:=hw (.inr (.inl hk));obtain ⟨h1,h2,h3⟩:=h.each _ hi;obtain ⟨n1,n2⟩:=fQ (q.rs who.toNat) e;exact h.put hi (h1.propose e he) n1 n2 (by have:=h1.nJ e he;rw [h3] at this;exact this)
   ·split
    ·rename_i hk
     have hi:=hw (.inr (.inr (.inl hk)));obtain ⟨h1,h2,h3⟩:=h.each _ hi;exact h.put hi h1 rfl rfl (by have:=h1.yu;rw [h3] at this;exact this)
    ·split
     ·rename_i hk
      obtain ⟨k1,k2⟩:=jA hp (.inl hk);exact (h.remove _).give (h.msgs _ (at_mem k1 k2).1)
     ·split
      ·rename_i hk
       obtain ⟨k1,k2⟩:=jA hp (.inr (.inl hk));exact h.give (h.msgs _ (at_mem k1 k2).1)
      ·split
       ·exact h.remove _
       ·have hi:=hw (by rcases jW hp with hh|hh<;>omega)
        obtain ⟨h1,h2,h3⟩:=h.each _ hi;exact h.put hi h1.crash rfl rfl (fun m hm=>by cases hm)
variable {g g' :Gh}
end
end
section
section
variable {w w' :World}{F:Nat→Prop}{p:Nat}{r:Rs}{s:Js}{n:Nat}
set_option maxHeartbeats 2000000 in
theorem ahf (h:RAt w F p r n):Calls Tryz.prog 44 #[.pointer (some ⟨p,0,none⟩)] w (fF w r.nD):=by
 have hr:r.role≠3∨r.role=3:=by omega
 have c3:w.cell? ⟨p,3,none⟩=some (.int .i64 r.role):=(let ⟨_,_,_,_,_,h1,_⟩:=h;h1.cell 3)
 rcases hr with hr|hr
 ·have hb:r.nD=[]:=by unfold Rs.nD;rw [if_pos hr]
  have t1:(r.role == 3)=false:=by simpa using hr
  have t2:(r.role != 3)=true:=by simpa using hr
  rw [hb];have M:=O (fF.none_ w);clear h hb hr
  go_in
  go_wp2_with fail
  go_ret
  exact M.out
 ·have hb:r.nD=r.gF:=by unfold Rs.nD;rw [if_neg (by simpa using hr)]
  rw [hb];have ho:=jX h hr;rw [hr] at c3;unfold Rs.gF;generalize (others r.id r.n).map r.app=ms at*;clear h hb hr;have HO:=O ho;clear ho
  go_in
  go_wp2_with fail
  refine HO.out.mono ?_;rintro e w5 m5;have M:=O m5;obtain ⟨A5,c5,rfl,-,-⟩:=m5
  go_wp2_with fail
  go_ret
  exact M.out
set_option maxHeartbeats 2000000 in
theorem ac5 (h:RAt w F p r n)(keep:Int):Calls Tryz.prog 46 #[.pointer (some ⟨p,0,none⟩),.int .i64 keep] w fun e w' =>e= .returned (.tuple #[])∧RTo w F p r.crash n w' :=by
 have hok:=h.ok;obtain ⟨j,Fj,bits,nx,mt,h1,h2,h3,h4,h5,h6,h7,-⟩:=h;have c0:w.cell? ⟨p,0,none⟩=some (.pointer (some ⟨j,0,none⟩)):=h1.cell 0;have hfin:=fun V (hj:eZ true w Fj j r.js n V)=>(RAt.jrn (r:=r) (s' :=r.js) h1 h2 h4 h5 h6 h7 hj hok:RTo w F p r n V);have hcr:=ai9 h3 keep;clear h1 h2 h3 h4 h5 h6 h7;obtain ⟨bS,HCR⟩:=aO hfin hcr;clear hfin hcr
 go_in
 go_wp2_with fail
 refine HCR.out.mono ?_;rintro e w2 ⟨rfl,t2⟩;obtain ⟨G,a2,i2,f2⟩:=bS.out _ t2;clear t2 c0;obtain ⟨j,Fj,bits,nx,mt,h1,h2,h3,h4,h5,h6,h7,-⟩:=a2;have k3:w2.cell? ⟨p,3,none⟩=some (.int .i64 r.role):=h1.cell 3;have k4:w2.cell? ⟨p,4,none⟩=some (.int .i64 (r.commit:Int)):=h1.cell 4;have kf3:=h1.frozen 3;have kf4:=h1.frozen 4;have kg:=fun W' (hW:W' =(w2.setCell ⟨p,3,none⟩ (.int .i64 1)).setCell ⟨p,4,none⟩ (.int .i64 0))=>(RTo.then f2 i2 (RAt.cells (r:=r) (r' :=r.crash) h2 h3 h4 h5 h6 (bits' :=bits) (nx' :=nx) (mt' :=mt) (by rw [hW];exact ((Fr.refl (fun i=>i=p) w2).setCell (p:=⟨p,3,none⟩) (.inl rfl) _).setCell (p:=⟨p,4,none⟩) (.inl rfl) _) (by rw [hW];exact ((h1.aU 3 _).aU 4 _).conv rfl) rfl ⟨fun hh=>by simp [Rs.crash] at hh,fun hh=>by simp [Rs.crash] at hh⟩ hok.crash):RTo w F p r.crash n W');clear h1 h2 h3 h4 h5 h6 h7 hok i2 f2;have oQ:=O kg;clear kg
 go_wp2_with fail
 go_end0
 exact ⟨rfl,oQ.out _ rfl⟩
end
end
def ku (up:Int):Nat→Qs→Nat→Qs
 |0,q,_=>q
 |f+1,q,k=>match q.net with
  |[]=>q
  |m :: _=>if 5000≤k then q else if ae4 up m then ku up f ((q.remove 0).give m).note (k+1) else ku up f (q.remove 0) k
theorem Flushes.eqF {up:Int}{q q' :Qs}{k k' :Nat}(h:Flushes up q k q' k'):∀f,(ku up f q k).net=[]→q' =ku up f q k:=by
 induction h with
 |stop q k hs=>
  intro f hf
  rcases f with _|f
  ·rfl
  ·simp only [ku]
   split
   ·rfl
   ·rename_i m l hm
    rcases hs with hs|hs
    ·rw [hs] at hm;cases hm
    ·rw [if_pos hs]
 |skip q k m l q' k' hk hm hi hn ih=>
  intro f hf
  rcases f with _|f
  ·simp only [ku,hm] at hf
   cases hf
  ·simp only [ku,hm,if_neg (show ¬5000≤k by omega),if_neg hi] at hf ⊢
   exact ih f hf
 |give q k m l q' k' hk hm hi hn ih=>
  intro f hf
  rcases f with _|f
  ·simp only [ku,hm] at hf
   cases hf
  ·simp only [ku,hm,if_neg (show ¬5000≤k by omega),if_pos hi] at hf ⊢
   exact ih f hf
def gX (rs:Nat→Rs):Nat→Int
 |0=> -1
 |k+1=>if (rs k).role=3∧(gX rs k<0∨(rs (gX rs k).toNat).js.term<(rs k).js.term) then (k:Int) else gX rs k
def zeroE:En:=⟨0,0,0,0,0,0,0,0,0⟩
def amh:Qs:=ku 7 24 ((jJ 3).act 1 0 0 zeroE) 0
def akf:Qs:=ku 7 24 (amh.act 2 0 0 (bE 4)) 0
theorem aw1:amh.net.isEmpty=true∧amh.jh 2 0 0 (bE 4)=0∧amh.n=3:=by decide+kernel
theorem aw2:akf.net.isEmpty=true∧gX akf.rs akf.n=0∧akf.n=3∧akf.done=[bE 4]:=⟨by decide+kernel,by decide+kernel,by decide+kernel,by kernel_rfl⟩
theorem oI {α:Type _}{l:List α}(h:l.isEmpty=true):l=[]:=by
 cases l with
 |nil=>rfl
 |cons a l=>cases h
theorem ael {q1:Qs}{c1:Nat}(f1:Flushes 7 ((jJ 3).act 1 0 0 zeroE) 0 q1 c1):
  q1.jh 2 0 0 (bE 4)=0∧q1.n=3∧∀q2 c2,Flushes 7 (q1.act 2 0 0 (bE 4)) 0 q2 c2→gX q2.rs q2.n=0∧q2.done=[bE 4]∧q2.n=3:=by
 obtain ⟨a1,a2,a3⟩:=aw1;obtain ⟨b1,b2,b3,b4⟩:=aw2;have e1:q1=amh:=f1.eqF 24 (oI a1);rw [e1];refine ⟨a2,a3,fun q2 c2 f2=> ?_⟩;have e2:q2=akf:=f2.eqF 24 (oI b1);rw [e2];exact ⟨b2,b4,b3⟩
theorem lu.new {n:Nat}(h0:0<n)(hn:n≤5):lu (jJ n):=
 ⟨h0,hn,fun i hi=>⟨bU.new hi hn,rfl,rfl⟩,Nat.zero_le _,(fun m hm=>by cases hm),Nat.zero_le _⟩
section
abbrev TRJ:TypeId:=101
def gy (w:World)(F:Nat→Prop)(j d:Nat)(xs:List UInt8)(k:Nat)(s:Js):Prop:=
 ∃v Fd,Blk w j TRJ #[.pointer (some ⟨d,0,none⟩),.int .i64 s.term,.int .i64 s.cu,v]∧F j∧bG w F TLg 10 v s.log.length (dD s.log)∧fq dz w Fd d xs k∧(∀i,Fd i→F i)∧¬Fd j∧(∀g,v.ownBlock=some g→¬Fd g)∧∀i,F i→i<w.heap.size
def gK (w:World)(F:Nat→Prop)(j d:Nat)(xs:List UInt8)(k:Nat)(s:Js)(w' :World):Prop:=
 ∃F',gy w' F' j d xs k s∧(∀i,F' i→F i∨w.heap.size≤i)∧Fr F w w'
section
variable {w w' w1:World}{F G:Nat→Prop}{j d:Nat}{xs:List UInt8}{k:Nat}{s:Js}
theorem gy.fr (h:gy w F j d xs k s)(hf:Fr G w w')(hd:∀i,F i→¬G i):gy w' F j d xs k s:=by
 obtain ⟨v,Fd,h1,h2,h3,h4,h5,h6,h7,h8⟩:=h;exact ⟨v,Fd,h1.fr hf (hd j h2),h2,h3.fr' hf fun g hg=>hd g (h3.2 g hg),h4.fr hf fun i hi=>hd i (h5 i hi),h5,h6,h7,fun i hi=>nll (h8 i hi) hf.size⟩
theorem gy.ak (h:gy w F j d xs k s)(hf:Fr No w w'):gy w' F j d xs k s:=h.fr hf fun _ _ hi=>hi
theorem gy.lt (h:gy w F j d xs k s):∀i,F i→i<w.heap.size:=by
 obtain ⟨v,Fd,h1,h2,h3,h4,h5,h6,h7,h8⟩:=h;exact h8
theorem gy.self (h:gy w F j d xs k s):gK w F j d xs k s w:=⟨F,h,fun _ hi=> .inl hi,Fr.refl _ _⟩
theorem gy.open_ (h:gy w F j d xs k s):∃A c Fd,Blk w j TRJ #[.pointer (some ⟨d,0,none⟩),.int .i64 s.term,.int .i64 s.cu,.slice A s.log.length c]∧F j∧bG w F TLg 10 (.slice A s.log.length c) s.log.length (dD s.log)∧fq dz w Fd d xs k∧(∀i,Fd i→F i)∧¬Fd j∧(∀g,Value.ownBlock (.slice A s.log.length c)=some g→¬Fd g)∧(∀i,F i→i<w.heap.size)∧
   w.cell? ⟨j,0,none⟩=some (.pointer (some ⟨d,0,none⟩))∧w.cell? ⟨j,1,none⟩=some (.int .i64 s.term)∧w.cell? ⟨j,2,none⟩=some (.int .i64 s.cu)∧w.cell? ⟨j,3,none⟩=some (.slice A s.log.length c)∧(A=none→s.log.length=0):=by
 obtain ⟨v,Fd,h1,h2,h3,h4,h5,h6,h7,h8⟩:=h;obtain ⟨A,c,rfl,hn⟩:=h3.form;exact ⟨A,c,Fd,h1,h2,h3,h4,h5,h6,h7,h8,h1.cell 0,h1.cell 1,h1.cell 2,h1.cell 3,hn⟩
theorem gy.disk {v:Value}{Fd:Nat→Prop}{ys:List UInt8}{m:Nat}(h1:Blk w j TRJ #[.pointer (some ⟨d,0,none⟩),.int .i64 s.term,.int .i64 s.cu,v])(h2:F j)(h3:bG w F TLg 10 v s.log.length (dD s.log))(h5:∀i,Fd i→F i)(h6:¬Fd j)(h7:∀g,v.ownBlock=some g→¬Fd g)(h8:∀i,F i→i<w.heap.size)
  (hd:jI dz w Fd d ys m w'):gK w F j d ys m s w' :=by
 obtain ⟨Fd',g1,g2,g3⟩:=hd;have hjl:=h8 j h2;refine ⟨fun i=>F i∨(w.heap.size≤i∧i<w'.heap.size),⟨v,Fd',h1.fr g3 h6,.inl h2,(h3.fr' g3 h7).mono fun i hi=> .inl hi,g1,?_,?_,?_,?_⟩,?_,g3.mono h5⟩
 ·intro i hi
  have:=g1.lt i hi
  rcases g2 i hi with h|h
  ·exact .inl (h5 i h)
  ·exact .inr ⟨h,this⟩
 ·intro h
  rcases g2 j h with h|h
  ·exact h6 h
  ·omega
 ·intro g hg h
  have hl:=h3.lt g hg
  rcases g2 g h with h|h
  ·exact h7 g hg h
  ·omega
 ·intro i hi
  rcases hi with h|h
  ·exact nll (h8 i h) g3.size
  ·exact h.2
 ·intro i hi
  rcases hi with h|h
  ·exact .inl h
  ·exact .inr h.1
theorem gK.trans {ys:List UInt8}{m:Nat}{s' :Js}(h:gK w F j d xs k s w1)(h2:∀F',gy w1 F' j d xs k s→gK w1 F' j d ys m s' w'):gK w F j d ys m s' w' :=by
 obtain ⟨F1,h3,h4,h5⟩:=h;obtain ⟨F2,g3,g4,g5⟩:=h2 F1 h3;refine ⟨F2,g3,fun i hi=> ?_,h5.trans g5 h4⟩
 rcases g4 i hi with h|h
 ·exact h4 i h
 ·exact .inr (Nat.le_trans h5.size h)
end
theorem akn (w:World):
  Calls Tryz.prog 32 #[] w fun e w' =>∃j d F,e= .returned (.pointer (some ⟨j,0,none⟩))∧gy w' F j d [] 0 iZ∧(∀i,F i→w.heap.size≤i)∧Fr No w w' :=by
 go_in
 go_wp2_with fail
 refine (acr _).mono ?_;rintro e w1 ⟨rfl,h1,f1⟩;obtain ⟨H1,F1⟩:=aO h1 f1;clear h1 f1
 go_wp2_with fail
 go_ret
 have hs:=F1.out.size;have hd:=H1.out.lt w.heap.size rfl;refine ⟨w1.heap.size,w.heap.size,fun i=>i=w.heap.size∨i=w1.heap.size,rfl,⟨.slice none 0 0,fun i=>i=w.heap.size,Blk.new _ _ _,.inr rfl,bG.nil _ _ _ _,H1.out.ak (aj _ _),fun i hi=> .inl hi,?_,fun g hg=>(by cases hg),?_⟩,?_,F1.out.alloc _⟩
 ·intro h
  omega
 ·intro i hi
  simp
  omega
 ·intro i hi
  omega
set_option maxHeartbeats 2000000 in
theorem ako {w:World}{F:Nat→Prop}{j d:Nat}{xs:List UInt8}{k:Nat}{s:Js}(h:gy w F j d xs k s)(i:Int):
  Calls Tryz.prog 55 #[.pointer (some ⟨j,0,none⟩),.int .i64 i] w fun e w' =>e= .returned (.tuple #[(atJ s.log i).1.v,.bool (atJ s.log i).2])∧Fr No w w' :=by
 obtain ⟨A,c,Fd,h1,h2,h3,h4,h5,h6,h7,h8,c0,c1,c2,c3,hn⟩:=h.open_;have hjl:=h1.lt;clear h h1 h2 h4 h5 h6 h7 h8
 by_cases h0:i<0
 ·have ha:atJ s.log i=(sW,false):=by unfold atJ;rw [if_neg oy]
  rw [ha];have t1:decide (i<0)=true:=by simpa using h0
  clear ha hn h3
  go_in
  go_wp2_with fail
  refine bodyPost_ret (v:= .tuple #[.agg _,.bool false]) (by simp [results,Tryz.results55,go_sem]) rfl ⟨rfl,?_⟩;exact aj _ _
 ·have t1:decide (i<0)=false:=by simpa using h0
  obtain ⟨n,rfl⟩:∃n:Nat,i=(n:Int):=⟨i.toNat,by omega⟩
  by_cases h9:s.log.length≤n
  ·have ha:atJ s.log (n:Int)=(sW,false):=by unfold atJ;rw [if_pos oy,Int.toNat_natCast,List.getElem?_eq_none h9]
   rw [ha];have t2:decide ((s.log.length:Int)≤(n:Int))=true:=by simpa using h9
   clear ha hn h3
   go_in
   go_wp2_with fail
   refine bodyPost_ret (v:= .tuple #[.agg _,.bool false]) (by simp [results,Tryz.results55,go_sem]) rfl ⟨rfl,?_⟩;exact aj _ _
  ·obtain ⟨x,hx⟩:∃x,s.log[n]? =some x:=⟨_,List.getElem?_eq_getElem oy⟩
   have ha:atJ s.log (n:Int)=(x,true):=by unfold atJ;rw [if_pos oy,Int.toNat_natCast,hx]
   rw [ha];have t2:decide ((s.log.length:Int)≤(n:Int))=false:=by simp;omega
   obtain ⟨b,rfl,hb,-,hc⟩:=h3.head oy;have hlt:n<s.log.length:=by omega
   have e0:w.cell? ⟨b,n*10,none⟩=some (.int .i64 x.term):=by rw [←Nat.add_zero (n*10),hc _ (by rw [bg];omega),dh s.log n 0 x hx oy];rfl
   have e1:w.cell? ⟨b,n*10+1,none⟩=some (.int .i64 x.e.kind):=by rw [hc _ (by rw [bg];omega),dh s.log n 1 x hx oy];rfl
   have e2:w.cell? ⟨b,n*10+2,none⟩=some (.int .i64 x.e.tick):=by rw [hc _ (by rw [bg];omega),dh s.log n 2 x hx oy];rfl
   have e3:w.cell? ⟨b,n*10+3,none⟩=some (.int .i64 x.e.aS):=by rw [hc _ (by rw [bg];omega),dh s.log n 3 x hx oy];rfl
   have e4:w.cell? ⟨b,n*10+4,none⟩=some (.int .i64 x.e.cell):=by rw [hc _ (by rw [bg];omega),dh s.log n 4 x hx oy];rfl
   have e5:w.cell? ⟨b,n*10+5,none⟩=some (.int .i64 x.e.other):=by rw [hc _ (by rw [bg];omega),dh s.log n 5 x hx oy];rfl
   have e6:w.cell? ⟨b,n*10+6,none⟩=some (.int .i64 x.e.epoch):=by rw [hc _ (by rw [bg];omega),dh s.log n 6 x hx oy];rfl
   have e7:w.cell? ⟨b,n*10+7,none⟩=some (.int .i64 x.e.from_):=by rw [hc _ (by rw [bg];omega),dh s.log n 7 x hx oy];rfl
   have e8:w.cell? ⟨b,n*10+8,none⟩=some (.int .i64 x.e.bA):=by rw [hc _ (by rw [bg];omega),dh s.log n 8 x hx oy];rfl
   have e9:w.cell? ⟨b,n*10+9,none⟩=some (.int .i64 x.e.n):=by rw [hc _ (by rw [bg];omega),dh s.log n 9 x hx oy];rfl
   clear ha hn h3 hc h9;have HX:=O hx;clear hx
   go_in
   go_wp2_with fail
   refine bodyPost_ret (v:= .tuple #[.agg _,.bool true]) (by simp [results,Tryz.results55,go_sem]) rfl ⟨rfl,?_⟩;exact aj _ _
theorem vG {w:World}{F:Nat→Prop}{j d:Nat}{xs:List UInt8}{k:Nat}{s:Js}(h:gy w F j d xs k s)(i:Int):
  Calls Tryz.prog 110 #[.pointer (some ⟨j,0,none⟩),.int .i64 i] w fun e w' =>e= .returned (.int .i64 (aD s.log i))∧Fr No w w' :=by
 have hA:=ako h i;rw [←zJ];revert hA;generalize (atJ s.log i).1=x;generalize (atJ s.log i).2=b;intro hA;unfold Lg.v at hA;have HA:=O hA;clear hA;clear h
 go_in
 go_wp2_with fail
 refine HA.out.mono ?_;rintro e w1 ⟨rfl,f1⟩;have F1:=O f1;clear f1
 go_wp2_with fail
 go_ret
 exact ⟨rfl,F1.out.alloc _⟩
section
variable {w:World}{F:Nat→Prop}{j d:Nat}{xs:List UInt8}{k:Nat}{s:Js}{v:Value}{Fd:Nat→Prop}
theorem gy.abt (t u:Int)(h1:Blk w j TRJ #[.pointer (some ⟨d,0,none⟩),.int .i64 s.term,.int .i64 s.cu,v])(h2:F j)(h3:bG w F TLg 10 v s.log.length (dD s.log))(h4:fq dz w Fd d xs k)(h5:∀i,Fd i→F i)(h6:¬Fd j)(h7:∀g,v.ownBlock=some g→¬Fd g)(h8:∀i,F i→i<w.heap.size):
  gK w F j d xs k ⟨t,u,s.log⟩ ((w.setCell ⟨j,1,none⟩ (.int .i64 t)).setCell ⟨j,2,none⟩ (.int .i64 u)):=by
 have hf:Fr (fun i=>i=j) w ((w.setCell ⟨j,1,none⟩ (.int .i64 t)).setCell ⟨j,2,none⟩ (.int .i64 u)):=((Fr.refl (fun i=>i=j) w).setCell (p:=⟨j,1,none⟩) (.inl rfl) _).setCell (p:=⟨j,2,none⟩) (.inl rfl) _;refine ⟨F,⟨v,Fd,(h1.aU 1 _).aU 2 _,h2,h3.fr' hf (h3.fT h1 dcd),h4.fr hf (fun i hi he=>h6 (he▸hi)),h5,h6,h7,fun i hi=>nll (h8 i hi) hf.size⟩,fun i hi=> .inl hi,hf.mono fun i hi=>hi▸h2⟩
theorem gy.sD {v' :Value}{l:List Lg}(h1:Blk w j TRJ #[.pointer (some ⟨d,0,none⟩),.int .i64 s.term,.int .i64 s.cu,v])(h2:F j)(h3:bG w F TLg 10 v' l.length (dD l))(h4:fq dz w Fd d xs k)(h5:∀i,Fd i→F i)(h6:¬Fd j)(h7:∀g,v'.ownBlock=some g→¬Fd g)(h8:∀i,F i→i<w.heap.size):
  gK w F j d xs k ⟨s.term,s.cu,l⟩ (w.setCell ⟨j,3,none⟩ v'):=by
 have hf:Fr (fun i=>i=j) w (w.setCell ⟨j,3,none⟩ v'):=(Fr.refl (fun i=>i=j) w).setCell (p:=⟨j,3,none⟩) (.inl rfl) _;refine ⟨F,⟨v',Fd,h1.aU 3 _,h2,h3.fr' hf (h3.fT h1 dcd),h4.fr hf (fun i hi he=>h6 (he▸hi)),h5,h6,h7,fun i hi=>nll (h8 i hi) hf.size⟩,fun i hi=> .inl hi,hf.mono fun i hi=>hi▸h2⟩
end
theorem gy.still {w w' :World}{F:Nat→Prop}{j d:Nat}{xs:List UInt8}{k:Nat}{s:Js}(h:gy w F j d xs k s)(hf:Fr No w w'):gK w F j d xs k s w' :=⟨F,h.ak hf,fun _ hi=> .inl hi,hf.mono fun _ hi=>hi.elim⟩
theorem gK.after {w w1 w' :World}{F:Nat→Prop}{j d:Nat}{xs:List UInt8}{k:Nat}{s:Js}(hf:Fr No w w1)(h:gK w1 F j d xs k s w'):gK w F j d xs k s w' :=by
 obtain ⟨F',h1,h2,h3⟩:=h;exact ⟨F',h1,fun i hi=>(h2 i hi).imp id (Nat.le_trans hf.size),(hf.mono (G:=F) fun _ hi=>hi.elim).trans h3 fun i hi=> .inl hi⟩
theorem gy.forget {w:World}{F:Nat→Prop}{j d:Nat}{xs:List UInt8}{k:Nat}{s:Js}(h:gy w F j d xs k s):
  gK w F j d xs k iZ (((w.setCell ⟨j,1,none⟩ (.int .i64 0)).setCell ⟨j,2,none⟩ (.int .i64 (-1))).setCell ⟨j,3,none⟩ (.slice none 0 0)):=by
 obtain ⟨v,Fd,h1,h2,h3,h4,h5,h6,h7,h8⟩:=h;obtain ⟨F',g1,g2,g3⟩:=gy.abt 0 (-1) h1 h2 h3 h4 h5 h6 h7 h8;obtain ⟨v',Fd',k1,k2,k3,k4,k5,k6,k7,k8⟩:=g1;have:=gy.sD (l:=[]) (v' := .slice none 0 0) k1 k2 (bG.nil _ _ _ _) k4 k5 k6 (fun g hg=>by cases hg) k8;obtain ⟨F2,m1,m2,m3⟩:=this;exact ⟨F2,m1,fun i hi=>(m2 i hi).elim (fun h=>g2 i h) (fun h=> .inr (Nat.le_trans g3.size h)),g3.trans m3 g2⟩
theorem gK.then {w w1 w' :World}{F F1:Nat→Prop}{j d:Nat}{ys:List UInt8}{m:Nat}{s' :Js}(hf:Fr F w w1)(hi:∀i,F1 i→F i∨w.heap.size≤i)(h:gK w1 F1 j d ys m s' w'):gK w F j d ys m s' w' :=by
 obtain ⟨F2,g3,g4,g5⟩:=h;exact ⟨F2,g3,fun i h=>(g4 i h).elim (fun h=>hi i h) (fun h=> .inr (Nat.le_trans hf.size h)),hf.trans g5 hi⟩
theorem gy.ptr {w:World}{F:Nat→Prop}{j d:Nat}{xs:List UInt8}{k:Nat}{s:Js}(h:gy w F j d xs k s):w.cell? ⟨j,0,none⟩=some (.pointer (some ⟨d,0,none⟩)):=by
 obtain ⟨v,Fd,h1,_⟩:=h;exact h1.cell 0
end
theorem sJ {w:World}{F:Nat→Prop}{j d:Nat}{xs:List UInt8}{k:Nat}{s:Js}(h:gy w F j d xs k s)(t v:Int):
  Calls Tryz.prog 155 #[.pointer (some ⟨j,0,none⟩),.int .i64 t,.int .i64 v] w fun e w' =>e= .returned (.int .i64 (bB s t v))∧gK w F j d xs k (bC s t v) w' :=by
 have hself:=h.self;obtain ⟨A,c,Fd,h1,h2,h3,h4,h5,h6,h7,h8,c0,c1,c2,c3,hn⟩:=h.open_;have hset:=gy.abt t v h1 h2 h3 h4 h5 h6 h7 h8;have f1:=h1.frozen 1;have f2:=h1.frozen 2;obtain ⟨X,hX⟩:∃X,X=bB s t v:=⟨_,rfl⟩;have hS:bC s t v=if X=0 then ⟨t,v,s.log⟩ else s:=by rw [hX];rfl
 rw [hS,←hX];unfold bB at hX;clear h h1 h2 h3 h4 h5 h6 h7 h8 hn hS;have ajb:X=0→gK w F j d xs k (if X=0 then ⟨t,v,s.log⟩ else s) ((w.setCell ⟨j,1,none⟩ (.int .i64 t)).setCell ⟨j,2,none⟩ (.int .i64 v)):=fun e=>by rw [if_pos e];exact hset
 have aja:X≠0→gK w F j d xs k (if X=0 then ⟨t,v,s.log⟩ else s) w:=fun e=>by rw [if_neg e];exact hself
 clear hself hset;obtain ⟨S,hSS⟩:∃S:Js,S=if X=0 then ⟨t,v,s.log⟩ else s:=⟨_,rfl⟩
 rw [←hSS] at ajb aja ⊢;clear hSS;obtain ⟨st,hst⟩:∃st,st=s.term:=⟨_,rfl⟩;obtain ⟨sv,hsv⟩:∃sv,sv=s.cu:=⟨_,rfl⟩;rw [←hst] at c1 hX;rw [←hsv] at c2 hX;clear hst hsv;obtain ⟨aj6,aa6⟩:=aO ajb aja;clear ajb aja
 by_cases g1:t<0
 ·rw [if_pos (.inl g1)] at hX
  have t1:decide (t<0)=true:=by simpa using g1
  subst hX
  go_in
  go_wp2_with fail
  go_ret
  exact ⟨rfl,aa6.out dcd⟩
 have t1:decide (t<0)=false:=by simpa using g1
 by_cases g2:1073741824<t
 ·rw [if_pos (.inr (.inl g2))] at hX
  have t2:decide (1073741824<t)=true:=by simpa using g2
  subst hX
  go_in
  go_wp2_with fail
  go_ret
  exact ⟨rfl,aa6.out dcd⟩
 have t2:decide (1073741824<t)=false:=by simpa using g2
 by_cases g3:v< -1
 ·rw [if_pos (.inr (.inr (.inl g3)))] at hX
  have t3:decide (v< -1)=true:=by simpa using g3
  subst hX
  go_in
  go_wp2_with fail
  go_ret
  exact ⟨rfl,aa6.out dcd⟩
 have t3:decide (v< -1)=false:=by simpa using g3
 by_cases g4:5≤v
 ·rw [if_pos (.inr (.inr (.inr g4)))] at hX
  have t4:decide (5≤v)=true:=by simpa using g4
  subst hX
  go_in
  go_wp2_with fail
  go_ret
  exact ⟨rfl,aa6.out dcd⟩
 have t4:decide (5≤v)=false:=by simpa using g4
 rw [if_neg oy] at hX;clear g1 g2 g3 g4
 by_cases g5:t<st
 ·rw [if_pos (.inl g5)] at hX
  have t5:decide (t<st)=true:=by simpa using g5
  subst hX
  go_in
  go_wp2_with fail
  go_ret
  exact ⟨rfl,aa6.out dcd⟩
 have t5:decide (t<st)=false:=by simpa using g5
 by_cases g6:t=st
 ·have t6:(t == st)=true:=by simpa using g6
  by_cases g7:sv= -1
  ·rw [if_neg oy] at hX
   have t7:(sv != -1)=false:=by simpa using g7
   subst hX;clear g5 g6 g7
   go_in
   go_wp2_with fail
   go_ret
   exact ⟨rfl,aj6.out (by trivial)⟩
  ·have t7:(sv != -1)=true:=by simpa using g7
   by_cases g8:sv=v
   ·rw [if_neg oy] at hX
    have t8:(sv != v)=false:=by simpa using g8
    subst hX;clear g5 g6 g7 g8
    go_in
    go_wp2_with fail
    go_ret
    exact ⟨rfl,aj6.out (by trivial)⟩
   ·rw [if_pos (.inr ⟨g6,g7,g8⟩)] at hX
    have t8:(sv != v)=true:=by simpa using g8
    subst hX;clear g5 g6 g7 g8
    go_in
    go_wp2_with fail
    go_ret
    exact ⟨rfl,aa6.out dcd⟩
 ·rw [if_neg oy] at hX
  have t6:(t == st)=false:=by simpa using g6
  subst hX;clear g5 g6
  go_in
  go_wp2_with fail
  go_ret
  exact ⟨rfl,aj6.out (by trivial)⟩
theorem pE (l:List Lg):∀u∈dD l,u.oneCell' =true:=by
 intro u hu;simp only [dD,List.mem_flatMap] at hu;obtain ⟨x,-,hx⟩:=hu;simp only [Lg.cells,List.mem_cons,List.not_mem_nil,or_false] at hx
 rcases hx with rfl|rfl|rfl|rfl|rfl|rfl|rfl|rfl|rfl|rfl<;>rfl
theorem af6 {w w2:World}{d:Nat}{xs:List UInt8}{k:Nat}{s:Js}{v:Value}{G:Nat→Prop}(hf:Fr No w w2)
  (hv:bG w2 (fun i=>w.heap.size≤i) TLg 10 v s.log.length (dD s.log)) (hd:eB w2 G d xs k) (hG:∀i,G i→w.heap.size≤i) (hvg:∀g,v.ownBlock=some g→¬G g):
  ∃j' d' F',Ending.returned (.pointer (some ⟨w2.heap.size,0,none⟩))=Ending.returned (.pointer (some ⟨j',0,none⟩))∧JAt (w2.alloc (.cells #[.pointer (some ⟨d,0,none⟩),.int .i64 s.term,.int .i64 s.cu,v] TJ)) F' j' d' xs k s∧(∀i,F' i→w.heap.size≤i)∧Fr No w (w2.alloc (.cells #[.pointer (some ⟨d,0,none⟩),.int .i64 s.term,.int .i64 s.cu,v] TJ)):=by
 have hs:=hf.size;refine ⟨w2.heap.size,d,fun i=>w.heap.size≤i∧i<w2.heap.size+1,rfl,⟨v,G,Blk.new _ _ _,⟨hs,by omega⟩,?_,hd.ak (aj _ _),?_,?_,hvg,?_⟩,fun i hi=>hi.1,hf.alloc _⟩
 ·refine ⟨(hv.ak (aj _ _)).1,fun g hg=>⟨hv.2 g hg,?_⟩⟩
  have:=hv.lt g hg
  omega
 ·intro i hi
  have:=hd.lt i hi;exact ⟨hG i hi,by omega⟩
 ·intro h
  have:=hd.lt _ h
  omega
 ·intro i hi
  simp
  omega
set_option maxHeartbeats 2000000 in
theorem alb {w:World}{F:Nat→Prop}{j d:Nat}{xs:List UInt8}{k:Nat}{s:Js}(h:JAt w F j d xs k s)(hl:s.log.length≤4096):
  Calls Tryz.prog 52 #[.pointer (some ⟨j,0,none⟩)] w fun e w' =>∃j' d' F',e= .returned (.pointer (some ⟨j',0,none⟩))∧JAt w' F' j' d' xs k s∧(∀i,F' i→w.heap.size≤i)∧Fr No w w' :=by
 obtain ⟨A,c,Fd,h1,h2,h3,h4,h5,h6,h7,h8,d0,d1,d2,d3,hn⟩:=h.open_;obtain ⟨i0,hi0,hz0,hz1,hz2⟩:=info_parts fV;have hjl:=h1.lt;have hrd:=h3.rd;have hone:=pE s.log;have hll:=bg s.log;have hka:∀W:World,Fr No w W→W.cell? ⟨j,0,none⟩=some (.pointer (some ⟨d,0,none⟩))∧W.cell? ⟨j,1,none⟩=some (.int .i64 s.term)∧W.cell? ⟨j,2,none⟩=some (.int .i64 s.cu):=fun W hW=>let g:=h1.fr hW id;⟨g.cell 0,g.cell 1,g.cell 2⟩;have hcp:=fun W (hf:Fr No w W)=>aed W Fd d xs k (h4.ak hf);clear h h1 h2 h3 h4 h5 h6 h7 h8 d1 d2;obtain ⟨HRD,HKA,HCP,zL,HLL⟩:=jr hrd hka hcp hone hll;clear hrd hka hcp hone hll
 go_in
 go_wp2_with (at_builtin;refine bK _ rfl _ (.tmp 7) _ rfl 0 TLg i0 _ 10 80 Tryz.underlying34 hi0 hz0 hz1 hz2 rfl dcd (.slice none 0 0) 0 [] rfl (World.ownsRow_nil _ _ _ _) w.heap.size A s.log.length c (dD s.log) rfl ?c1 ?c2 ?c3 zL.out ?c4 ?c5 ?c6 ?_)
 case c1=>exact hn
 case c2=>exact HRD.out
 case c3=>exact HLL.out
 case c4=>unfold maxLen;omega
 case c5=>omega
 case c6=>exact Nat.zero_le _
 intro v1 w1 happ;obtain ⟨o1,f1⟩:=(bG.nil w No TLg 10).appended happ;rw [List.nil_append,Nat.zero_add] at o1;obtain ⟨A1,c1,rfl,hn1⟩:=o1.form;clear happ hn1;have O1:=O o1;have hf0:=HKA.out _ f1;obtain ⟨e0,e1,e2⟩:=hf0;clear o1 d0 d3
 go_wp2_with fail
 go_region_held3 (fun V=>V.cell? ⟨j,0,none⟩=some (.pointer (some ⟨d,0,none⟩))∧V.cell? ⟨j,1,none⟩=some (.int .i64 s.term)∧V.cell? ⟨j,2,none⟩=some (.int .i64 s.cu)) (exact HKA.out _ frz) (first
  |(go_at_call 111;refine (HCP.out _ frz).mono ?_;rintro e w2 ⟨d2,G2,rfl,a2,n2,f2⟩;have Q2:Fr No w w2:=Fr.ah frz f2;have D2:=O a2;have N2:=O n2;clear a2 n2))
 all_goals
  have h1s:=f1.size;have O2:=O (bG.mono (G:=fun i=>w.heap.size≤i) (O1.out.ak ((Fr.refl No w1).drew.ah f2)) fun i hi=>by rcases hi with hi|hi;exact hi.elim;omega);have hd:∀g,Value.ownBlock (.slice A1 s.log.length c1)=some g→¬G2 g:=fun g hg hh=>by have h1:=O1.out.lt g hg;have h2:=N2.out g hh;simp at h2;omega
  have N3:∀i,G2 i→w.heap.size≤i:=fun i hi=>by have h2:=N2.out i hi;simp at h2;omega
  have HD:=O hd;clear hd;clear O1
  go_wp2_with fail
  go_ret
  exact af6 Q2 O2.out D2.out N3 HD.out
theorem bG.made (w:World)(e:TypeId)(size:Nat):bG (w.alloc (.cells #[] e)) (fun i=>w.heap.size≤i) e size (.slice (some ⟨w.heap.size,0,none⟩) 0 0) 0 []:=
 ⟨World.ownsRow_made w #[] 0 (Nat.zero_le _) (Nat.zero_le _) (by simp),fun g hg=>by simp [Value.ownBlock] at hg;omega⟩
theorem bG.aT {w w' :World}{B:Nat}{e:TypeId}{size n:Nat}{v:Value}{xs:List Value}(h:bG w (fun i=>B≤i) e size v n xs)(hB:B≤w.heap.size){news:List Value}{m:Nat}{v' :Value}(ha:bN w 0 e size v n xs news m v' w'):
  bG w' (fun i=>B≤i) e size v' (n+m) (xs++news)∧Fr (fun i=>B≤i) w w' :=by
 obtain ⟨h1,h2⟩:=h.appended ha;exact ⟨h1.mono fun i hi=>by rcases hi with hi|hi<;>omega,h2⟩
theorem gy.ahh {w w2:World}{F:Nat→Prop}{j d:Nat}{xs:List UInt8}{k:Nat}{s:Js}{v v' :Value}{Fd:Nat→Prop}{l:List Lg}(h1:Blk w j TRJ #[.pointer (some ⟨d,0,none⟩),.int .i64 s.term,.int .i64 s.cu,v])(h2:F j)(h4:fq dz w Fd d xs k)(h5:∀i,Fd i→F i)(h6:¬Fd j)(h8:∀i,F i→i<w.heap.size)
  (hf:Fr No w w2) (ho:bG w2 (fun i=>w.heap.size≤i) TLg 10 v' l.length (dD l)):gK w F j d xs k ⟨s.term,s.cu,l⟩ (w2.setCell ⟨j,3,none⟩ v'):=by
 have hs:=hf.size;have hjt:=gy.sD (F:=fun i=>F i∨(w.heap.size≤i∧i<w2.heap.size)) (s:=s) (v' :=v') (l:=l) (h1.fr hf id) (.inl h2) ⟨ho.1,fun g hg=> .inr ⟨ho.2 g hg,ho.lt g hg⟩⟩ (h4.ak hf) (fun i hi=> .inl (h5 i hi)) h6 (fun g hg h=>by
  have h9:=ho.2 g hg;have h10:=h8 g (h5 g h);simp only at h9
  omega) (fun i hi=>by
   rcases hi with hi|hi
   ·exact nll (h8 i hi) hs
   ·exact hi.2)
 obtain ⟨F',g1,g2,g3⟩:=hjt;refine ⟨F',g1,fun i hi=> ?_,(hf.mono (G:=F) fun _ hi=>hi.elim).trans g3 fun i hi=> ?_⟩
 ·rcases g2 i hi with (h|h)|h
  ·exact .inl h
  ·exact .inr h.1
  ·exact .inr (Nat.le_trans hs h)
 ·rcases hi with h|h
  ·exact .inl h
  ·exact .inr h.1
theorem ag8 {w:World}{F:Nat→Prop}{j d:Nat}{xs:List UInt8}{k:Nat}{s:Js}(h:gy w F j d xs k s)(hlen:s.log.length≤4096)(n:Int):
  Calls Tryz.prog 166 #[.pointer (some ⟨j,0,none⟩),.int .i64 n] w fun e w' =>e= .returned (.int .i64 (jg s n))∧gK w F j d xs k (jP s n) w' :=by
 have hself:=h.self;obtain ⟨A,c,Fd,h1,h2,h3,h4,h5,h6,h7,h8,c0,c1,c2,c3,hn⟩:=h.open_;have f3:=h1.frozen 3;have hcap:=h3.cap
 by_cases g1:n<0
 ·have hx:jg s n=1:=by unfold jg;rw [if_pos (.inl g1)]
  have hy:jP s n=s:=by unfold jP;rw [hx];rfl
  rw [hx,hy];have t1:decide (n<0)=true:=by simpa using g1
  clear h h1 h2 h3 h4 h5 h6 h7 h8 hn hx hy;have yB:=O hself;clear hself
  go_in
  go_wp2_with fail
  go_ret
  exact ⟨rfl,yB.out⟩
 ·have t1:decide (n<0)=false:=by simpa using g1
  by_cases g2:(s.log.length:Int)<n
  ·have hx:jg s n=1:=by unfold jg;rw [if_pos (.inr g2)]
   have hy:jP s n=s:=by unfold jP;rw [hx];rfl
   rw [hx,hy];have t2:decide ((s.log.length:Int)<n)=true:=by simpa using g2
   clear h h1 h2 h3 h4 h5 h6 h7 h8 hn hx hy;have yB:=O hself;clear hself
   go_in
   go_wp2_with fail
   go_ret
   exact ⟨rfl,yB.out⟩
  ·obtain ⟨m,rfl⟩:∃m:Nat,n=(m:Int):=⟨n.toNat,by omega⟩
   have hx:jg s (m:Int)=0:=by unfold jg;rw [if_neg oy]
   have hy:jP s (m:Int)=⟨s.term,s.cu,s.log.take m⟩:=by unfold jP;rw [hx,if_pos rfl,Int.toNat_natCast]
   rw [hx,hy];have t2:decide ((s.log.length:Int)<(m:Int))=false:=by simp;omega
   have hml:m≤s.log.length:=by omega
   have h3c:=h3.cut hml;rw [vW] at h3c;obtain ⟨i0,hi0,hz0,hz1,hz2⟩:=info_parts fV;have hjl:=h1.lt;have htl:(s.log.take m).length=m:=by rw [List.length_take,Nat.min_eq_left hml]
   have hfin:=fun w2 v' (hf:Fr No w w2) (ho:bG w2 (fun i=>w.heap.size≤i) TLg 10 v' m (dD (s.log.take m)))=>gy.ahh (l:=s.log.take m) (v' :=v') h1 h2 h4 h5 h6 h8 hf (by rw [htl];exact ho);have uR:=fun w2 (hf:Fr No w w2)=>let g:=h1.fr hf id;(⟨g.cell 3,g.frozen 3,g.lt⟩:w2.cell? ⟨j,3,none⟩=some (.slice A s.log.length c)∧w2.frozen? ⟨j,3,none⟩=false∧j<w2.heap.size);have hrd:=h3c.rd;have hone:=pE (s.log.take m);have hll:=bg (s.log.take m);rw [htl] at hll;have hnn:A=none→m=0:=fun h=>by have:=hn h;omega
   have hmc:m≤c:=by omega
   generalize s.log.take m=lt at*;clear h h1 h2 h3 h4 h5 h6 h7 h8 hx hy hself h3c htl hn;obtain ⟨bS,abf,HRD,zL,HLL,HNN⟩:=lG hfin uR hrd hone hll hnn;clear hfin uR hrd hone hll hnn
   go_in
   go_wp2_with (at_builtin;refine bK _ rfl (.tmp 17) (.tmp 23) _ rfl 0 TLg i0 _ 10 80 Tryz.underlying34 hi0 hz0 hz1 hz2 rfl dcd (.slice (some ⟨w.heap.size,0,none⟩) 0 0) 0 [] rfl (bG.made w TLg 10).1 w.heap.size A m c (dD lt) rfl ?c1 ?c2 ?c3 zL.out ?c4 ?c5 (Nat.zero_le _) ?_)
   case c1=>exact HNN.out
   case c2=>exact HRD.out.ak (aj _ _) (Nat.le_refl _)
   case c3=>exact HLL.out
   case c4=>unfold maxLen;omega
   case c5=>omega
   intro v1 w1 happ;obtain ⟨o1,f1⟩:=(bG.made w TLg 10).aT (by simp) happ;rw [List.nil_append,Nat.zero_add] at o1;obtain ⟨A1,c1',rfl,hn1⟩:=o1.form;have F1:=(aj w (.cells #[] TLg)).aA f1 fun i hi=>hi;obtain ⟨x3,y3,z3⟩:=abf.out _ F1;have HF:=O (bS.out _ _ F1 o1);clear happ hn1 f1 F1 o1 c3 f3
   go_wp2_with fail
   go_ret
   exact ⟨rfl,HF.out⟩
set_option maxHeartbeats 2000000 in
theorem acg {w:World}{F:Nat→Prop}{j d:Nat}{xs:List UInt8}{k:Nat}{s:Js}(h:gy w F j d xs k s)(A:Option Addr)(m c:Nat)(r:List UInt8)(B:Nat)(hA:A=none→m=0)(hr:Rd w B A (r.map bv))(hm:r.length=m)(hB:B≤w.heap.size)(hm2:m≤65536)(hsz:xs.length+18+m≤140737488355328):
  Calls Tryz.prog 128 #[.pointer (some ⟨j,0,none⟩),.slice A m c] w fun e w' =>e= .returned (.tuple #[])∧gK w F j d (xs++eT 8 r) k s w' :=by
 obtain ⟨A1,c1,Fd,h1,h2,h3,h4,h5,h6,h7,h8,d0,d1,d2,d3,hn⟩:=h.open_;have hjl:=h1.lt;have hpl:=dX 8 r oy;have hput:=fun V (hf:Fr No w V)=>sI none 0 0 8 A m c [] r V B (fun _=>rfl) rfl (.inl rfl) hA hm (hr.ak hf hB) (Nat.le_trans hB hf.size) oy hm2;simp only [List.nil_append] at hput;have alx:=fun V (hf:Fr No w V) A2 c2 B2 (h:Own V (fun i=>B2≤i) 5 (.slice A2 (eT 8 r).length c2) ((eT 8 r).map bv))=>vK V Fd d xs k (h4.ak hf) A2 (eT 8 r).length c2 (eT 8 r) V.heap.size h.len.2 h.rd (Nat.le_refl _) rfl oy;have hfin:=fun V V' (hf:Fr No w V) (hd:jI dz V Fd d (xs++eT 8 r) k V')=>gy.disk (h1.fr hf id) h2 (h3.ak hf) h5 h6 h7 (fun i hi=>nll (h8 i hi) hf.size) hd;have hcell:=fun V V' (hf:Fr No w V) (hd:jI dz V Fd d (xs++eT 8 r) k V')=>(((h1.fr hf id).fr (let ⟨_,_,_,g⟩:=hd;g:Fr Fd V V') h6).cell 0:V'.cell? ⟨j,0,none⟩=some (.pointer (some ⟨d,0,none⟩)));have ad1:=fun V (hf:Fr No w V)=>((h1.fr hf id).cell 0:V.cell? ⟨j,0,none⟩=some (.pointer (some ⟨d,0,none⟩)));clear h h1 h2 h3 h4 h5 h6 h7 h8 hn d1 d2 d3;generalize eT 8 r=R at*;obtain ⟨wP,apb,bS,aj2,aj3⟩:=jr hput alx hfin hcell ad1;clear hput alx hfin hcell ad1
 go_in
 go_wp2_with fail
 go_region_held3 (fun V=>V.cell? ⟨j,0,none⟩=some (.pointer (some ⟨d,0,none⟩))) (first|exact q2|exact q1|exact d0) (first
  |(go_at_call 141;refine (wP.out _ (Fr.refl No w).drew).mono ?_;rintro e w5 ⟨A5,c5,rfl,o5,f5⟩;have FF:=O ((Fr.refl No w).drew.ah f5);have q1:=aj3.out _ FF.out;have O5:=O o5;clear o5 f5)
  |(go_at_call 156;refine (apb.out _ FF.out _ _ _ O5.out).mono ?_;rintro e w6 ⟨rfl,d6⟩;have q2:=aj2.out _ _ FF.out d6;have D6:=O (gK.after FF.out (bS.out _ _ FF.out d6));clear d6))
 go_wp2_with fail
 go_end0
 exact ⟨rfl,D6.out⟩
theorem aie {w:World}{F:Nat→Prop}{j d:Nat}{xs:List UInt8}{k:Nat}{s:Js}(h:gy w F j d xs k s):
  Calls Tryz.prog 95 #[.pointer (some ⟨j,0,none⟩)] w fun e w' =>e= .returned (.tuple #[])∧gK w F j d xs xs.length s w' :=by
 obtain ⟨A1,c1,Fd,h1,h2,h3,h4,h5,h6,h7,h8,d0,d1,d2,d3,hn⟩:=h.open_;have hfin:=fun V' (hd:jI dz w Fd d xs xs.length V')=>gy.disk h1 h2 h3 h5 h6 h7 h8 hd;have hsy:=aac w Fd d xs k h4;clear h h1 h2 h3 h4 h5 h6 h7 h8 hn d1 d2 d3;obtain ⟨bS,HSY⟩:=aO hfin hsy;clear hfin hsy
 go_in
 go_wp2_with fail
 refine HSY.out.mono ?_;rintro e w1 ⟨rfl,d1⟩;have D1:=O (bS.out _ d1);clear d1
 go_wp2_with fail
 go_end0
 exact ⟨rfl,D1.out⟩
theorem iK (A:Option Addr)(c:Nat)(k:Int)(l:List UInt8)(w:World)(hA:A=none→l.length=0)(hr:Rd w w.heap.size A (l.map bv))(hk1: -9223372036854775808≤k)(hk2:k≤9223372036854775807)(hsz:l.length≤225000000000000):
  Calls Tryz.prog 129 #[.slice A l.length c,.int .i64 k] w fun e w' =>∃A' c' l',l' =l++bX (aV k)∧e= .returned (.slice A' l'.length c')∧(A' =none→l'.length=0)∧Rd w' w'.heap.size A' (l'.map bv)∧Own w' (fun i=>w.heap.size≤i) 5 (.slice A' l'.length c') (l'.map bv)∧Fr No w w' :=by
 refine (fO A l.length c k l w w.heap.size hA rfl hr (Nat.le_refl _) hk1 hk2 hsz).mono ?_;rintro e w' ⟨A',c',rfl,o,f⟩;rw [←List.length_append] at o;exact ⟨A',c',_,rfl,by rw [List.length_append],o.len.2,o.rd,o,f⟩
set_option maxHeartbeats 2000000 in
theorem zW {w:World}{F:Nat→Prop}{j d:Nat}{xs:List UInt8}{k:Nat}{s:Js}(h:gy w F j d xs k s)(t v:Int)(hsz:xs.length+100≤140737488355328):
  Calls Tryz.prog 126 #[.pointer (some ⟨j,0,none⟩),.int .i64 t,.int .i64 v] w fun e w' =>e= .returned (.int .i64 (bB s t v))∧gK w F j d (if bB s t v=0 then xs++eT 8 (zY t v) else xs) k (bC s t v) w' :=by
 have hset:=sJ h t v;have hbd:=fun hx=>wT (s:=s) (t:=t) (v:=v) hx;revert hset hbd;generalize bB s t v=X;generalize bC s t v=S;intro hset hbd;clear h;obtain ⟨Y,hY⟩:∃Y,Y=if X=0 then xs++eT 8 (zY t v) else xs:=⟨_,rfl⟩
 rw [←hY];obtain ⟨jQ,HY⟩:=aO hset hY;clear hset hY
 go_in
 go_wp2_with fail
 refine jQ.out.mono ?_;rintro e w1 ⟨rfl,j1⟩;clear jQ
 by_cases hx:X=0
 ·subst hx
  have hb:=hbd rfl;obtain ⟨F1,a1,i1,f1⟩:=j1;have b1:=aP _ (bq 1 oy oy);have b2:=aP _ (bq t oy oy);have b3:=aP _ (bq v oy oy);have hy:Y=xs++eT 8 ((([]++bX (aV 1))++bX (aV t))++bX (aV v)):=by rw [HY.out,if_pos rfl];simp [zY,dY,ji]
  clear hbd HY;obtain ⟨A1,I1,F1,HY⟩:=fK a1 i1 f1 hy;clear a1 i1 f1 hy
  go_wp2_with fail
  refine (iK none 0 1 [] w1 (fun _=>rfl) (.inl rfl) oy oy dcd).mono ?_;rintro e w2 ⟨A2,c2,l2,hl2,rfl,n2,r2,-,f2⟩;have g2:l2.length≤10:=by rw [hl2];simpa using b1
  obtain ⟨F2,N2,R2,HL2⟩:=fK f2 n2 r2 hl2;clear n2 r2 hl2;clear f2
  go_wp2_with fail
  refine (iK A2 c2 t l2 w2 N2.out R2.out oy oy oy).mono ?_;rintro e w3 ⟨A3,c3,l3,hl3,rfl,n3,r3,-,f3⟩;have g3:l3.length≤20:=by rw [hl3,List.length_append];omega
  obtain ⟨F3,N3,R3,HL3⟩:=fK (F2.out.ah f3) n3 r3 hl3;clear n3 r3 hl3;clear f3 N2 R2
  go_wp2_with fail
  refine (iK A3 c3 v l3 w3 N3.out R3.out oy oy oy).mono ?_;rintro e w4 ⟨A4,c4,l4,hl4,rfl,n4,r4,-,f4⟩;have g4:l4.length≤30:=by rw [hl4,List.length_append];omega
  have F4:=O (F3.out.ah f4);have hy:Y=xs++eT 8 l4:=by rw [HY.out,←HL2.out,←HL3.out,←hl4]
  clear HY hl4 HL2 HL3 F2 F3;obtain ⟨N4,R4,HY⟩:=bP n4 r4 hy;clear n4 r4 hy;clear f4 N3 R3
  go_wp2_with fail
  refine (acg (A1.out.ak F4.out) A4 _ c4 l4 w4.heap.size N4.out R4.out rfl (Nat.le_refl _) oy oy).mono ?_;rintro e w5 ⟨rfl,j3⟩;have J3:=O (gK.after F4.out j3);clear j3
  go_wp2_with fail
  go_ret
  refine ⟨rfl,?_⟩;rw [HY.out];exact gK.then F1.out I1.out J3.out
 ·have b1:(X == 0)=false:=by simpa using hx
  have b2:(X != 0)=true:=by simpa using hx
  have hy:Y=xs:=by rw [HY.out,if_neg hx]
  clear hbd HY;obtain ⟨J1,HX,HY⟩:=bP j1 hx hy;clear j1 hx hy
  go_wp2_with fail
  go_ret
  exact ⟨rfl,by rw [HY.out];exact J1.out⟩
set_option maxHeartbeats 2000000 in
theorem akp {w:World}{F:Nat→Prop}{j d:Nat}{xs:List UInt8}{k:Nat}{s:Js}(h:gy w F j d xs k s)(n:Int)(hlen:s.log.length≤4096)(hsz:xs.length+100≤140737488355328):
  Calls Tryz.prog 149 #[.pointer (some ⟨j,0,none⟩),.int .i64 n] w fun e w' =>e= .returned (.int .i64 (jg s n))∧gK w F j d (if jg s n=0 then xs++eT 8 (recC n) else xs) k (jP s n) w' :=by
 have hset:=ag8 h hlen n;have hbd:=fun hx=>yj (s:=s) (n:=n) hx;revert hset hbd;generalize jg s n=X;generalize jP s n=S;intro hset hbd;clear h;obtain ⟨Y,hY⟩:∃Y,Y=if X=0 then xs++eT 8 (recC n) else xs:=⟨_,rfl⟩
 rw [←hY];obtain ⟨jQ,HY⟩:=aO hset hY;clear hset hY
 go_in
 go_wp2_with fail
 refine jQ.out.mono ?_;rintro e w1 ⟨rfl,j1⟩;clear jQ
 by_cases hx:X=0
 ·subst hx
  have hb:=hbd rfl;obtain ⟨F1,a1,i1,f1⟩:=j1;have b1:=aP _ (bq 3 oy oy);have b2:=aP _ (bq n oy oy);have hy:Y=xs++eT 8 (([]++bX (aV 3))++bX (aV n)):=by rw [HY.out,if_pos rfl];simp [recC,dY,ji]
  clear hbd HY;obtain ⟨A1,I1,F1,HY⟩:=fK a1 i1 f1 hy;clear a1 i1 f1 hy
  go_wp2_with fail
  refine (iK none 0 3 [] w1 (fun _=>rfl) (.inl rfl) oy oy dcd).mono ?_;rintro e w2 ⟨A2,c2,l2,hl2,rfl,n2,r2,-,f2⟩;have g2:l2.length≤10:=by rw [hl2];simpa using b1
  obtain ⟨F2,N2,R2,HL2⟩:=fK f2 n2 r2 hl2;clear n2 r2 hl2;clear f2
  go_wp2_with fail
  refine (iK A2 c2 n l2 w2 N2.out R2.out oy oy oy).mono ?_;rintro e w4 ⟨A4,c4,l4,hl4,rfl,n4,r4,-,f4⟩;have g4:l4.length≤20:=by rw [hl4,List.length_append];omega
  have F4:=O (F2.out.ah f4);have hy:Y=xs++eT 8 l4:=by rw [HY.out,←HL2.out,←hl4]
  clear HY hl4 HL2 F2;obtain ⟨N4,R4,HY⟩:=bP n4 r4 hy;clear n4 r4 hy;clear f4 N2 R2
  go_wp2_with fail
  refine (acg (A1.out.ak F4.out) A4 _ c4 l4 w4.heap.size N4.out R4.out rfl (Nat.le_refl _) oy oy).mono ?_;rintro e w5 ⟨rfl,j3⟩;have J3:=O (gK.after F4.out j3);clear j3
  go_wp2_with fail
  go_ret
  refine ⟨rfl,?_⟩;rw [HY.out];exact gK.then F1.out I1.out J3.out
 ·have b1:(X == 0)=false:=by simpa using hx
  have b2:(X != 0)=true:=by simpa using hx
  have hy:Y=xs:=by rw [HY.out,if_neg hx]
  clear hbd HY;obtain ⟨J1,HX,HY⟩:=bP j1 hx hy;clear j1 hx hy
  go_wp2_with fail
  go_ret
  exact ⟨rfl,by rw [HY.out];exact J1.out⟩
theorem aip {W:World}{b:Nat}{e:TypeId}{size:Nat}(hbk:Blk W b e #[]):bG W (fun i=>i=b) e size (.slice (some ⟨b,0,none⟩) 0 0) 0 []:=
 ⟨⟨by simp,.inr ⟨b,0,#[],rfl,Nat.zero_le _,hbk,Nat.le_refl _,Nat.zero_le _,by simp,by simp⟩⟩,fun g hg=>by simp [Value.ownBlock] at hg;exact hg.symm⟩
theorem bG.app1 {w W w1:World}{b:Nat}{e:TypeId}{size:Nat}{xs:List Value}{m:Nat}{v1:Value}(hf:Fr No w W)(hb:w.heap.size≤b)(hbk:Blk W b e #[])(happ:bN W 0 e size (.slice (some ⟨b,0,none⟩) 0 0) 0 [] xs m v1 w1):
  bG w1 (fun i=>w.heap.size≤i) e size v1 m xs∧Fr (fun i=>i=b) W w1∧Fr No w w1:=by
 obtain ⟨h1,h2⟩:=(aip hbk).appended happ;rw [List.nil_append,Nat.zero_add] at h1;have hs:=hf.size;exact ⟨h1.mono fun i hi=>by rcases hi with hi|hi<;>omega,h2,hf.aA h2 fun i hi=>by omega⟩
theorem acs {V:World}{b:Nat}{t:TypeId}{cs:Array Value}(h:Blk V b t cs):Rd V V.heap.size (some ⟨b,0,none⟩) cs.toList:=by
 refine .inr ⟨_,0,rfl,h.lt,fun j hj=> ?_⟩;rw [h.cell,Nat.zero_add]
 simp at hj
 simp [Array.getElem?_eq_getElem hj]
theorem ach {w:World}{F:Nat→Prop}{j d:Nat}{xs:List UInt8}{k:Nat}{s:Js}(h:gy w F j d xs k s)(hlen:s.log.length≤4096):
  Calls Tryz.prog 93 #[.pointer (some ⟨j,0,none⟩)] w fun e w' =>e= .returned (.int .i64 (aD s.log ((s.log.length:Int)-1)))∧Fr No w w' :=by
 obtain ⟨A,c,Fd,h1,h2,h3,h4,h5,h6,h7,h8,c0,c1,c2,c3,hn⟩:=h.open_;have hT:=vG h ((s.log.length:Int)-1);have hwr:IntKind.i64.wrap ((s.log.length:Int)-1)=(s.log.length:Int)-1:=IntWalk.i64_in _ oy;clear h h1 h2 h3 h4 h5 h6 h7 h8 hn;generalize aD s.log ((s.log.length:Int)-1)=lt at*;have HT:=O hT;clear hT
 go_in
 go_wp2_with fail
 refine HT.out.mono ?_;rintro e w1 ⟨rfl,f1⟩;have F1:=O f1;clear f1
 go_wp2_with fail
 go_ret
 exact ⟨rfl,F1.out⟩
set_option maxHeartbeats 8000000 in
theorem ag9 {w:World}{F:Nat→Prop}{j d:Nat}{xs:List UInt8}{k:Nat}{s:Js}(h:gy w F j d xs k s)(hlen:s.log.length≤4096)(t:Int)(e:En):
  Calls Tryz.prog 127 #[.pointer (some ⟨j,0,none⟩),.int .i64 t,e.v] w fun r w' =>r= .returned (.int .i64 (iB s t e))∧gK w F j d xs k (gT s t e) w' :=by
 obtain ⟨i0,hi0,hz0,hz1,hz2⟩:=info_parts fV;have hsh:=fun V=>nI e V;obtain ⟨X,hX⟩:∃X,X=iB s t e:=⟨_,rfl⟩;have hS:gT s t e=if X=0 then ⟨s.term,s.cu,s.log++[⟨t,e⟩]⟩ else s:=by rw [hX];rfl
 rw [hS,←hX];unfold iB at hX;revert hsh hX;generalize dW e=b;intro hsh hX;clear hS;obtain ⟨k0,tick,te,ce,ot,ep,fr,un,n⟩:=e;unfold En.v at*;have hstill:=fun w' (hf:Fr No w w')=>h.still hf;have hta:=fun w' (hf:Fr No w w')=>ach (h.ak hf) oy;obtain ⟨A,c,Fd,h1,h2,h3,h4,h5,h6,h7,h8,d0,d1,d2,d3,hn⟩:=h.open_;have hjl:=h1.lt;have hcap:=h3.cap;have hput:=fun w2 v' (hf:Fr No w w2) (ho:bG w2 (fun i=>w.heap.size≤i) TLg 10 v' (s.log.length+1) (dD s.log++Lg.cells ⟨t,⟨k0,tick,te,ce,ot,ep,fr,un,n⟩⟩))=>gy.ahh (v' :=v') (l:=s.log++[⟨t,⟨k0,tick,te,ce,ot,ep,fr,un,n⟩⟩]) h1 h2 h4 h5 h6 h8 hf (by rw [List.length_append,mV];exact ho);have uR:=fun w2 (hf:Fr No w w2)=>let g:=h1.fr hf id;(⟨g.cell 3,g.frozen 3⟩:w2.cell? ⟨j,3,none⟩=some (.slice A s.log.length c)∧w2.frozen? ⟨j,3,none⟩=false);have hrd:=h3.rd;have hone:=pE s.log;have hll:=bg s.log;have hnn:=hn;obtain ⟨BB,FF⟩:=aO (Blk.new w dR #[.int .i64 k0,.int .i64 tick,.int .i64 te,.int .i64 ce,.int .i64 ot,.int .i64 ep,.int .i64 fr,.int .i64 un,.int .i64 n]) (aj w (.cells #[.int .i64 k0,.int .i64 tick,.int .i64 te,.int .i64 ce,.int .i64 ot,.int .i64 ep,.int .i64 fr,.int .i64 un,.int .i64 n] dR));obtain ⟨c0,c1,c2,c3,c4,c5,c6,c7,c8⟩:=aB BB.out;have hwr:IntKind.i64.wrap ((s.log.length:Int)-1)=(s.log.length:Int)-1:=IntWalk.i64_in _ oy;clear h h2 h3 h4 h5 h6 h7 h8 hn;generalize aD s.log ((s.log.length:Int)-1)=lt at*;obtain ⟨HSH,bZ,HTA,wP,abf,H1,HRD,zL,HLL,HNN⟩:=lH hsh hstill hta hput uR h1 hrd hone hll hnn
 clear hsh hstill hta hput uR h1 hrd hone hll hnn
 by_cases g1:t<1
 ·rw [if_pos (.inl g1)] at hX
  have t1:decide (t<1)=true:=by simpa using g1
  subst hX
  go_in
  go_wp2_with fail
  go_ret
  exact ⟨rfl,bZ.out _ FF.out⟩
 have t1:decide (t<1)=false:=by simpa using g1
 by_cases g2:1073741824<t
 ·rw [if_pos (.inr (.inl g2))] at hX
  have t2:decide (1073741824<t)=true:=by simpa using g2
  subst hX
  go_in
  go_wp2_with fail
  go_ret
  exact ⟨rfl,bZ.out _ FF.out⟩
 have t2:decide (1073741824<t)=false:=by simpa using g2
 have HX:=O hX;clear hX
 go_in
 go_wp2_with fail
 refine (HSH.out _).mono ?_;rintro r w5 ⟨rfl,f5⟩;replace FF:=O (FF.out.ah f5);replace BB:=O (BB.out.fr f5 id);clear f5 c0 c1 c2 c3 c4 c5 c6 c7 c8 d0 d1 d2 d3;obtain ⟨c0,c1,c2,c3,c4,c5,c6,c7,c8⟩:=aB BB.out;have hb5:=H1.out.fr FF.out id;have d1:w5.cell? ⟨j,1,none⟩=some (.int .i64 s.term):=hb5.cell 1;have d3:w5.cell? ⟨j,3,none⟩=some (.slice A s.log.length c):=hb5.cell 3;have an8:=hb5.lt;clear hb5
 cases b
 ·have hX:=HX.out
  rw [if_pos (.inr (.inr rfl))] at hX;subst hX;clear HX
  go_wp2_with fail
  go_ret
  exact ⟨rfl,bZ.out _ FF.out⟩
 have hX:=HX.out;rw [if_neg (by simp;omega)] at hX;clear HX
 by_cases g3:s.term<t
 ·rw [if_pos (.inl g3)] at hX
  have t3:decide (s.term<t)=true:=by simpa using g3
  subst hX
  go_wp2_with fail
  go_ret
  exact ⟨rfl,bZ.out _ FF.out⟩
 have t3:decide (s.term<t)=false:=by simpa using g3
 have HX:=O hX;clear hX
 go_wp2_with fail
 refine (HTA.out _ FF.out).mono ?_;rintro r w6 ⟨rfl,f6⟩;replace FF:=O (FF.out.ah f6);replace BB:=O (BB.out.fr f6 id);clear f6 c0 c1 c2 c3 c4 c5 c6 c7 c8 d1 d3 an8;obtain ⟨c0,c1,c2,c3,c4,c5,c6,c7,c8⟩:=aB BB.out;have hb5:=H1.out.fr FF.out id;have d3:w6.cell? ⟨j,3,none⟩=some (.slice A s.log.length c):=hb5.cell 3;have q3:=hb5.frozen 3;have arp:=hb5.lt;have hel:=BB.out.lt;clear hb5;have hX:=HX.out;clear HX
 by_cases g4:t<lt
 ·rw [if_pos (.inr g4)] at hX
  have t4:decide (t<lt)=true:=by simpa using g4
  subst hX
  go_wp2_with fail
  go_ret
  exact ⟨rfl,bZ.out _ FF.out⟩
 have t4:decide (t<lt)=false:=by simpa using g4
 rw [if_neg oy] at hX
 by_cases g5:4096≤s.log.length
 ·rw [if_pos g5] at hX
  have t5:decide ((4096:Int)≤(s.log.length:Int))=true:=by simp;omega
  subst hX
  go_wp2_with fail
  go_ret
  exact ⟨rfl,bZ.out _ FF.out⟩
 have t5:decide ((4096:Int)≤(s.log.length:Int))=false:=by simp;omega
 rw [if_neg g5] at hX;subst hX;have hcap2:s.log.length≤4096:=by omega
 have hek:∀V,Fr No w6 V→V.cell? ⟨w.heap.size,0,none⟩=some (.int .i64 k0)∧V.cell? ⟨w.heap.size,1,none⟩=some (.int .i64 tick)∧V.cell? ⟨w.heap.size,2,none⟩=some (.int .i64 te)∧V.cell? ⟨w.heap.size,3,none⟩=some (.int .i64 ce)∧V.cell? ⟨w.heap.size,4,none⟩=some (.int .i64 ot)∧V.cell? ⟨w.heap.size,5,none⟩=some (.int .i64 ep)∧V.cell? ⟨w.heap.size,6,none⟩=some (.int .i64 fr)∧V.cell? ⟨w.heap.size,7,none⟩=some (.int .i64 un)∧V.cell? ⟨w.heap.size,8,none⟩=some (.int .i64 n):=fun V hV=>let g:=BB.out.fr hV id;⟨g.cell 0,g.cell 1,g.cell 2,g.cell 3,g.cell 4,g.cell 5,g.cell 6,g.cell 7,g.cell 8⟩;have hs6:w.heap.size≤w6.heap.size:=FF.out.size;have hke:=fun V (hf:Fr No w6 V)=>(hek V hf);have hbj:Blk w6 j TRJ #[.pointer (some ⟨d,0,none⟩),.int .i64 s.term,.int .i64 s.cu,.slice A s.log.length c]:=H1.out.fr FF.out id;have hset:∀V v',Fr No w6 V→Fr (fun i=>i=j) w6 (V.setCell ⟨j,3,none⟩ v'):=fun V v' hV=>Fr.setCell (F:=fun i=>i=j) (hV.mono fun _ h=>h.elim) (p:=⟨j,3,none⟩) (.inl rfl) _;have hjn:w.heap.size≠j:=by omega
 have hes:∀V,Fr (fun i=>i=j) w6 V→V.cell? ⟨w.heap.size,0,none⟩=some (.int .i64 k0)∧V.cell? ⟨w.heap.size,1,none⟩=some (.int .i64 tick)∧V.cell? ⟨w.heap.size,2,none⟩=some (.int .i64 te)∧V.cell? ⟨w.heap.size,3,none⟩=some (.int .i64 ce)∧V.cell? ⟨w.heap.size,4,none⟩=some (.int .i64 ot)∧V.cell? ⟨w.heap.size,5,none⟩=some (.int .i64 ep)∧V.cell? ⟨w.heap.size,6,none⟩=some (.int .i64 fr)∧V.cell? ⟨w.heap.size,7,none⟩=some (.int .i64 un)∧V.cell? ⟨w.heap.size,8,none⟩=some (.int .i64 n):=fun V hV=>let g:=BB.out.fr hV hjn;⟨g.cell 0,g.cell 1,g.cell 2,g.cell 3,g.cell 4,g.cell 5,g.cell 6,g.cell 7,g.cell 8⟩;clear hke hbj hek;obtain ⟨HES,jQ⟩:=aO hes hset;clear hes hset
 go_wp2_with fail
 go_region_law
  (first
  |(refine bf _ (by rfl) (.tmp 40) (.tmp 44) _ (by rfl) 0 TLg i0 _ 10 80 Tryz.underlying34 hi0 hz0 hz1 hz2 rfl dcd (.slice (some ⟨_,0,none⟩) 0 0) 0 [] (by rfl) (aip (by first|(refine dM _ _ _ _ ?_;simp;done)|exact Blk.fr (F:=No) (Blk.new w6 TLg #[]) frx id|exact Blk.fr (F:=No) (dM (w6.alloc (.cells #[.int .i64 t,.int .i64 k0,.int .i64 tick,.int .i64 te,.int .i64 ce,.int .i64 ot,.int .i64 ep,.int .i64 fr,.int .i64 un,.int .i64 n] TLg)) (w6.heap.size+1) TLg #[] (by simp)) frx id)).1 w.heap.size A s.log.length c (dD s.log) (by rfl) HNN.out (HRD.out.ak (FF.out.ah fry) (Nat.le_refl _)) HLL.out zL.out mxl oy (Nat.zero_le _) ?_;intro v1 w1 happ;obtain ⟨o1,f1b,f1⟩:=bG.app1 (w:=w6) fry (by simp) (by first|(refine dM _ _ _ _ ?_;simp;done)|exact Blk.fr (F:=No) (Blk.new w6 TLg #[]) frx id|exact Blk.fr (F:=No) (dM (w6.alloc (.cells #[.int .i64 t,.int .i64 k0,.int .i64 tick,.int .i64 te,.int .i64 ce,.int .i64 ot,.int .i64 ep,.int .i64 fr,.int .i64 un,.int .i64 n] TLg)) (w6.heap.size+1) TLg #[] (by simp)) frx id) happ;obtain ⟨A4,c4,rfl,n4⟩:=o1.form;have O1:=O o1;have F1B:=O f1b;obtain ⟨e0,e1,e2,e3,e4,e5,e6,e7,e8⟩:=HES.out _ (Fr.mono (F:=No) f1 fun _ h=>h.elim);have hl1:=f1.size;clear n4 happ o1 f1b)
  |(refine bf _ (by rfl) (.tmp 45) (.tmp 49) _ (by rfl) 0 TLg i0 _ 10 80 Tryz.underlying34 hi0 hz0 hz1 hz2 rfl dcd (.slice A4 s.log.length c4) s.log.length (dD s.log) (by rfl) (O1.out.ak frx).1 _ (some ⟨_,0,none⟩) 1 1 (Lg.cells ⟨t,⟨k0,tick,te,ce,ot,ep,fr,un,n⟩⟩) (by rfl) (fun h=>by cases h) (acs (by first|(refine dM _ _ _ _ ?_;simp;done)|exact Blk.fr (Blk.fr (F:=No) (dM (w6.alloc (.cells #[] TLg)) (w6.heap.size+1) TLg #[.int .i64 t,.int .i64 k0,.int .i64 tick,.int .i64 te,.int .i64 ce,.int .i64 ot,.int .i64 ep,.int .i64 fr,.int .i64 un,.int .i64 n] (by simp)) frx id) F1B.out (by simp)|exact Blk.fr (Blk.fr (F:=No) (Blk.new w6 TLg #[.int .i64 t,.int .i64 k0,.int .i64 tick,.int .i64 te,.int .i64 ce,.int .i64 ot,.int .i64 ep,.int .i64 fr,.int .i64 un,.int .i64 n]) frx id) F1B.out (by simp))) rfl (by simp [Lg.cells,Value.oneCell']) mxl oy (Nat.zero_le _) ?_;intro v2 w2 happ;obtain ⟨o2,f2⟩:=(O1.out.ak frx).aT (B:=w6.heap.size) (Fr.size (F:=No) fry) happ;have f3:Fr No w6 w2:=Fr.aA fry f2 (fun _ hi=>hi);obtain ⟨A5,c5,rfl,n5⟩:=o2.form;obtain ⟨x3,y3⟩:=abf.out _ (FF.out.ah f3);have HJT:=O (wP.out _ _ (FF.out.ah f3) (o2.mono fun i hi=>Nat.le_trans hs6 hi));clear happ o2 f2 n5))
 all_goals
  go_wp2_with fail
  go_ret
  exact ⟨rfl,HJT.out⟩
end Go.Proofs.YtjnfmfmglehmbaaGreat
