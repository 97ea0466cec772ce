/-
  The plain law of journals: what a journal remembers, its records, how they are replayed.
-/
import Derived.Test.YtodkhcbjpodgeaaGreatG21
import Derived.Test.YtodkhcbjpodgeaaGreatG02
namespace Go.Proofs.YtodkhcbjpodgeaaGreat
set_option linter.unusedVariables false
set_option maxRecDepth 100000
set_option maxHeartbeats 4000000
structure Lg where
 term:Int
 e:En
deriving DecidableEq
structure Js where
 term:Int
 fZ:Int
 log:List Lg
abbrev abf:Js:=⟨0,-1,[]⟩
def dX (l:List Lg)(i:Int):Int:=if 0≤i then ((l[i.toNat]?).map (·.term)).getD 0 else 0
def bK (s:Js)(term fZ:Int):Int:=
 if term<0∨1073741824<term∨fZ< -1∨5≤fZ then 1 else if term<s.term∨(term=s.term∧s.fZ≠-1∧s.fZ≠fZ) then 20 else 0
def cO (s:Js)(term fZ:Int):Js:=if bK s term fZ=0 then ⟨term,fZ,s.log⟩ else s
def kX (s:Js)(term:Int)(e:En):Int:=
 if term<1∨1073741824<term∨fF e=false then 1 else if s.term<term∨term<dX s.log ((s.log.length:Int)-1) then 20 else if 4096≤s.log.length then 2 else 0
def jN (s:Js)(term:Int)(e:En):Js:=if kX s term e=0 then ⟨s.term,s.fZ,s.log++[⟨term,e⟩]⟩ else s
def aus (s:Js)(n:Int):Int:=if n<0∨(s.log.length:Int)<n then 1 else 0
def aw5 (s:Js)(n:Int):Js:=if aus s n=0 then ⟨s.term,s.fZ,s.log.take n.toNat⟩ else s
def tkJ (p:List UInt8):Option (Int×List UInt8):=if (ad5 p).e=0 then some ((ad5 p).n,p.drop (ad5 p).k) else none
def um (s:Js)(kind n:Int)(p:List UInt8):Option Js:=
 if kind=1 then (match tkJ p with
  |none=>none
  |some (v,q)=>if q=[]∧bK s n v=0 then some (cO s n v) else none)
 else if kind=2 then (if (yw p).x=0∧(yw p).k=p.length∧kX s n (yw p).e=0 then some (jN s n (yw p).e) else none)
 else if kind=3 then (if p=[]∧aus s n=0 then some (aw5 s n) else none)
 else none
def jH (s:Js)(r:List UInt8):Option Js:=
 match tkJ r with
 |none=>none
 |some (kind,p)=>match tkJ p with
  |none=>none
  |some (n,q)=>um s kind n q
def uT:Js→List (List UInt8)→Option Js
 |s,[]=>some s
 |s,r :: rs=>(jH s r).bind fun s' =>uT s' rs
theorem lX (n:Int)(h1: -9223372036854775808≤n)(h2:n≤9223372036854775807)(p:List UInt8):tkJ (fM (bW n)++p)=some (n,p):=by
 unfold tkJ;rw [vU n h1 h2];simp only [if_true,List.drop_left' rfl]
theorem iG (n:Int)(l:List Int):dA (n :: l)=fM (bW n)++dA l:=by simp [dA]
theorem sG:dA []=[]:=rfl
theorem yu (e:En)(h:e.ok)(hs:fF e=true)(more:List UInt8):yw (enB e++more)=⟨e,(enB e).length,0⟩:=by
 have h1:=yO e.l [] more [] h;rw [En.ap2] at h1;simp only [List.nil_append,List.length_nil,Nat.zero_add] at h1;unfold yw enB;rw [h1];unfold aur;simp only [if_true,En.av1,hs]
def ag0 (term fZ:Int):List UInt8:=dA [1,term,fZ]
def aev (term:Int)(e:En):List UInt8:=dA [2,term]++enB e
theorem uj (s:Js)(t v:Int)(h:bK s t v=0):jH s (ag0 t v)=some (cO s t v):=by
 have hb:¬(t<0∨1073741824<t∨v< -1∨5≤v):=by
  intro hc;unfold bK at h;rw [if_pos hc] at h;exact absurd h dcd
 unfold jH ag0;rw [iG,iG,iG,sG,lX 1 dcd dcd];simp only;rw [lX t oy oy];simp only [um,if_true];rw [lX v oy oy];simp only [true_and,h,if_true]
theorem rG (s:Js)(t:Int)(e:En)(he:e.ok)(h:kX s t e=0):jH s (aev t e)=some (jN s t e):=by
 have hb:¬(t<1∨1073741824<t∨fF e=false):=by
  intro hc;unfold kX at h;rw [if_pos hc] at h;exact absurd h dcd
 have hs:fF e=true:=by
  cases hq:fF e
  ·exact absurd (Or.inr (Or.inr hq)) hb
  ·rfl
 unfold jH aev;rw [iG,iG,sG,List.append_nil,List.append_assoc,lX 2 dcd dcd];simp only;rw [lX t oy oy];simp only [um];rw [if_neg dcd,if_pos trivial];have:=yu e he hs [];rw [List.append_nil] at this;rw [this];simp only [true_and,h,if_true]
theorem sN (s:Js)(rs qs:List (List UInt8)):uT s (rs++qs)=(uT s rs).bind fun s' =>uT s' qs:=by
 induction rs generalizing s with
 |nil=>rfl
 |cons r rs ih=>
  simp only [List.cons_append,uT]
  cases jH s r with
  |none=>rfl
  |some s' =>simpa using ih s'
structure Good (xs:List UInt8) (s:Js) (rs:List (List UInt8)):Prop where
 bytes:xs=frames 8 rs
 small:∀r∈rs,r.length≤65536
 makes:uT abf rs=some s
theorem Good.new:Good [] abf []:=⟨rfl,fun _ h=>(by cases h),rfl⟩
theorem Good.snoc {xs:List UInt8}{s s' :Js}{rs:List (List UInt8)}(h:Good xs s rs)(r:List UInt8)(hr:r.length≤65536)(hq:jH s r=some s'):Good (xs++nN 8 r) s' (rs++[r]):=by
 refine ⟨by rw [qx,h.bytes];simp [frames],?_,?_⟩
 ·intro q hq
  rcases List.mem_append.1 hq with h1|h1
  ·exact h.small q h1
  ·simp at h1;subst h1;exact hr
 ·rw [sN,h.makes]
  simp [uT,hq]
end Go.Proofs.YtodkhcbjpodgeaaGreat
