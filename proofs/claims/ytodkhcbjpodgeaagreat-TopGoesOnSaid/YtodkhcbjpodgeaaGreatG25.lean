/-
  The plain law of a quorum: what its acts do.
-/
import Derived.Test.YtodkhcbjpodgeaaGreatG24
namespace Go.Proofs.YtodkhcbjpodgeaaGreat
set_option linter.unusedVariables false
set_option maxRecDepth 100000
set_option maxHeartbeats 4000000
section
structure Qs where
 n:Nat
 rs:Nat→Rs
 net:List Ms
 done:List En
def wG (n:Nat):Qs:=⟨n,fun q=>gy q n,[],[]⟩
def fT (net:List Ms)(m:Ms):List Ms:=(if 256≤net.length then net.drop 1 else net)++[m]
def sendAll (net l:List Ms):List Ms:=l.foldl fT net
def r9 (rs:Nat→Rs)(d:List En):Nat→List En
 |0=>d
 |k+1=>if (rs k).commit≤(r9 rs d k).length then r9 rs d k else ((rs k).js.log.take (rs k).commit).map (·.e)
def Qs.note (q:Qs):Qs:={q with done:=r9 q.rs q.done q.n}
def Qs.put (q:Qs)(i:Nat)(x:Rs×List Ms):Qs:={q with rs:=upd q.rs i x.1,net:=sendAll q.net x.2}
def Qs.remove (q:Qs)(i:Nat):Qs:={q with net:=q.net.eraseIdx i}
def Qs.give (q:Qs)(m:Ms):Qs:=q.put m.to_.toNat ((q.rs m.to_.toNat).handle m)
def Qs.permits (q:Qs)(kind who num:Int):Bool:=
 if kind=1∨kind=2∨kind=3∨kind=7 then decide (0≤who∧who<q.n) else
 if kind=4∨kind=5∨kind=6 then decide (0≤num∧num<q.net.length) else false
def av2:Ms:=⟨0,0,0,0,0,0,0,false,[]⟩
def Qs.at_ (q:Qs)(i:Int):Ms:=(q.net[i.toNat]?).getD av2
def Qs.zB (q:Qs)(kind who num:Int)(e:En):Int:=
 if q.permits kind who num=false then 1 else if kind=2 then (q.rs who.toNat).kJ e else 0
def Qs.act (q:Qs)(kind who num:Int)(e:En):Qs:=
 if q.zB kind who num e≠0 then q else
 (if kind=1 then q.put who.toNat (q.rs who.toNat).bB else
  if kind=2 then q.put who.toNat ((q.rs who.toNat).propose e) else
  if kind=3 then q.put who.toNat (q.rs who.toNat,(q.rs who.toNat).axc) else
  if kind=4 then (q.remove num.toNat).give (q.at_ num) else
  if kind=5 then q.give (q.at_ num) else
  if kind=6 then q.remove num.toNat else q.put who.toNat ((q.rs who.toNat).crash,[])).note
structure kD (n:Nat) (m:Ms):Prop where
 to_:∃t:Nat,t<n∧m.to_=t
 from_:∃t:Nat,t<n∧m.from_=t
 es:∀x∈m.es,x.e.ok
 few:m.es.length≤4096
structure tF (q:Qs):Prop where
 pos:0<q.n
 five:q.n≤5
 each:∀i,i<q.n→gJ (q.rs i)∧(q.rs i).id=i∧(q.rs i).n=q.n
 net:q.net.length≤256
 msgs:∀m∈q.net,kD q.n m
 done:q.done.length≤4096
theorem uf (net:List Ms)(m:Ms)(h:net.length≤256):(fT net m).length≤256:=by
 unfold fT
 split<;>simp<;>omega
theorem tZ {net:List Ms}{m x:Ms}(h:x∈fT net m):x∈net∨x=m:=by
 unfold fT at h
 rcases List.mem_append.1 h with h|h
 ·split at h
  ·exact .inl (List.mem_of_mem_drop h)
  ·exact .inl h
 ·simp at h;exact .inr h
theorem uh (l:List Ms):∀net:List Ms,net.length≤256→(sendAll net l).length≤256:=by
 induction l with
 |nil=>exact fun net h=>h
 |cons m l ih=>exact fun net h=>ih _ (uf net m h)
theorem ug (l:List Ms):∀{net:List Ms} {x:Ms},x∈sendAll net l→x∈net∨x∈l:=by
 induction l with
 |nil=>exact fun h=> .inl h
 |cons m l ih=>
  intro net x h
  rcases ih (show x∈sendAll (fT net m) l from h) with h|h
  ·rcases tZ h with h|h
   ·exact .inl h
   ·exact .inr (by rw [h];simp)
  ·exact .inr (by simp [h])
theorem rC (net l:List Ms)(m:Ms):sendAll net (l++[m])=fT (sendAll net l) m:=by simp [sendAll]
section
variable {r:Rs}
theorem gJ.anr (h:gJ r){dst:Nat}(hto:dst<r.n):kD r.n (r.app dst):=
 ⟨⟨dst,hto,rfl⟩,⟨r.id,h.idn,rfl⟩,fun x hx=>(h.log.each x (List.mem_of_mem_drop hx)).2.2.2,by
  show (r.js.log.drop (r.next dst)).length≤4096
  have:=h.log.few;rw [List.length_drop]
  omega⟩
theorem gJ.ad2 (h:gJ r):∀m∈r.nO,kD r.n m:=by
 intro m hm;unfold Rs.nO at hm;obtain ⟨dst,h1,rfl⟩:=List.mem_map.1 hm;exact h.anr (ow.1 h1).1
theorem kD.plain {n:Nat}{m:Ms}(h1:∃t:Nat,t<n∧m.to_=t)(h2:∃t:Nat,t<n∧m.from_=t)(h3:m.es=[]):kD n m:=⟨h1,h2,(fun x hx=>by rw [h3] at hx;cases hx),by rw [h3];simp⟩
theorem gJ.vH (h:gJ r):∀x∈r.bB.2,kD r.n x:=by
 unfold Rs.bB
 split
 ·exact fun x hx=>by cases hx
 ·split
  ·exact fun x hx=>by cases hx
  ·intro x hx
   obtain ⟨dst,h1,rfl⟩:=List.mem_map.1 hx;exact kD.plain ⟨dst,(ow.1 h1).1,rfl⟩ ⟨r.id,h.idn,rfl⟩ rfl
theorem gJ.yC (h:gJ r)(e:En)(he:e.ok):∀x∈(r.propose e).2,kD r.n x:=by
 unfold Rs.propose
 split
 ·exact (h.proposed e he).ad2
 ·exact fun x hx=>by cases hx
theorem oV (r:Rs):r.bB.1.id=r.id∧r.bB.1.n=r.n:=by
 unfold Rs.bB
 split
 ·exact ⟨rfl,rfl⟩
 ·split<;>exact ⟨rfl,rfl⟩
theorem jZ (r:Rs)(e:En):(r.propose e).1.id=r.id∧(r.propose e).1.n=r.n:=by
 unfold Rs.propose
 split<;>exact ⟨rfl,rfl⟩
end
section
variable {q:Qs}
theorem tF.put (h:tF q){i:Nat}(hi:i<q.n){x:Rs×List Ms}(h1:gJ x.1)(h2:x.1.id=(q.rs i).id)(h3:x.1.n=(q.rs i).n)(h4:∀m∈x.2,kD q.n m):tF (q.put i x):=by
 refine ⟨h.pos,h.five,fun j hj=> ?_,uh _ _ h.net,fun m hm=> ?_,h.done⟩
 ·show gJ (upd q.rs i x.1 j)∧(upd q.rs i x.1 j).id=j∧(upd q.rs i x.1 j).n=q.n
  by_cases e:j=i
  ·subst e
   rw [pQ,h2,h3];exact ⟨h1,(h.each j hj).2⟩
  ·rw [upd_ne e];exact h.each j hj
 ·rcases ug _ hm with hm|hm
  ·exact h.msgs m hm
  ·exact h4 m hm
theorem tF.remove (h:tF q)(i:Nat):tF (q.remove i):=
 ⟨h.pos,h.five,h.each,by
  show (q.net.eraseIdx i).length≤256
  have:=h.net;have:=List.length_eraseIdx_le q.net i
  omega,fun m hm=>h.msgs m (List.mem_of_mem_eraseIdx hm),h.done⟩
variable {g g' :Gh}
end
end
theorem tF.new {n:Nat}(h0:0<n)(hn:n≤5):tF (wG n):=
 ⟨h0,hn,fun i hi=>⟨gJ.new hi hn,rfl,rfl⟩,Nat.zero_le _,(fun m hm=>by cases hm),Nat.zero_le _⟩
end Go.Proofs.YtodkhcbjpodgeaaGreat
