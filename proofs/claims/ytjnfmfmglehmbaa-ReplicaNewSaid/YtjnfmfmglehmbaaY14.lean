/-
  The plain law of journals: what a journal remembers, its records, how they are replayed.
-/
import Derived.Test.YtjnfmfmglehmbaaY13
import Derived.Test.YtjnfmfmglehmbaaY07
import Derived.Test.YtjnfmfmglehmbaaY01
namespace Go.Proofs.Ytjnfmfmglehmbaa
set_option linter.unusedVariables false
set_option maxRecDepth 100000
set_option maxHeartbeats 16000000
structure Lg where
 term:Int
 e:En
deriving DecidableEq
structure Js where
 term:Int
 vote:Int
 log:List Lg
abbrev jsNew:Js:=⟨0,-1,[]⟩
def termAt (l:List Lg) (i:Int):Int:=if 0≤i then ((l[i.toNat]?).map (·.term)).getD 0 else 0
def setTermX (s:Js) (term vote:Int):Int:=
 if term<0∨1073741824<term∨vote< -1∨5≤vote then 1 else if term<s.term∨(term=s.term∧s.vote≠-1∧s.vote≠vote) then 20 else 0
def setTermS (s:Js) (term vote:Int):Js:=if setTermX s term vote=0 then ⟨term,vote,s.log⟩ else s
def addX (s:Js) (term:Int) (e:En):Int:=
 if term<1∨1073741824<term∨shapeB e=false then 1 else if s.term<term∨term<termAt s.log ((s.log.length:Int)-1) then 20 else if 4096≤s.log.length then 2 else 0
def addS (s:Js) (term:Int) (e:En):Js:=if addX s term e=0 then ⟨s.term,s.vote,s.log++[⟨term,e⟩]⟩ else s
def cutX (s:Js) (n:Int):Int:=if n<0∨(s.log.length:Int)<n then 1 else 0
def cutS (s:Js) (n:Int):Js:=if cutX s n=0 then ⟨s.term,s.vote,s.log.take n.toNat⟩ else s
def tkJ (p:List UInt8):Option (Int×List UInt8):=if (takN p).e=0 then some ((takN p).n,p.drop (takN p).k) else none
def replayB (s:Js) (kind n:Int) (p:List UInt8):Option Js:=
 if kind=1 then (match tkJ p with
  |none=>none
  |some (v,q)=>if q=[]∧setTermX s n v=0 then some (setTermS s n v) else none)
 else if kind=2 then (if (readE p).x=0∧(readE p).k=p.length∧addX s n (readE p).e=0 then some (addS s n (readE p).e) else none)
 else if kind=3 then (if p=[]∧cutX s n=0 then some (cutS s n) else none)
 else none
def replayJ (s:Js) (r:List UInt8):Option Js:=
 match tkJ r with
 |none=>none
 |some (kind,p)=>match tkJ p with
  |none=>none
  |some (n,q)=>replayB s kind n q
def foldJ:Js→List (List UInt8)→Option Js
 |s,[]=>some s
 |s,r :: rs=>(replayJ s r).bind fun s' =>foldJ s' rs
theorem tkJ_int (n:Int) (h1: -9223372036854775808≤n) (h2:n≤9223372036854775807) (p:List UInt8):tkJ (encN (codeN n)++p)=some (n,p):=by
 unfold tkJ
 rw [takN_enc n h1 h2]
 simp only [if_true,List.drop_left' rfl]
theorem intsF_cons (n:Int) (l:List Int):intsF (n :: l)=encN (codeN n)++intsF l:=by simp [intsF]
theorem intsF_nil:intsF []=[]:=rfl
theorem readE_back (e:En) (h:e.ok) (hs:shapeB e=true) (more:List UInt8):readE (enB e++more)=⟨e,(enB e).length,0⟩:=by
 have h1:=intsG_back e.l [] more [] h
 rw [En.l_len] at h1
 simp only [List.nil_append,List.length_nil,Nat.zero_add] at h1
 unfold readE enB
 rw [h1]
 unfold finE
 simp only [if_true,En.of_l,hs]
def recT (term vote:Int):List UInt8:=intsF [1,term,vote]
def recE (term:Int) (e:En):List UInt8:=intsF [2,term]++enB e
theorem replay_term (s:Js) (t v:Int) (h:setTermX s t v=0):replayJ s (recT t v)=some (setTermS s t v):=by
 have hb:¬(t<0∨1073741824<t∨v< -1∨5≤v):=by
  intro hc
  unfold setTermX at h
  rw [if_pos hc] at h
  exact absurd h (by decide)
 unfold replayJ recT
 rw [intsF_cons,intsF_cons,intsF_cons,intsF_nil,tkJ_int 1 (by decide) (by decide)]
 simp only
 rw [tkJ_int t (by omega) (by omega)]
 simp only [replayB,if_true]
 rw [tkJ_int v (by omega) (by omega)]
 simp only [true_and,h,if_true]
theorem replay_entry (s:Js) (t:Int) (e:En) (he:e.ok) (h:addX s t e=0):replayJ s (recE t e)=some (addS s t e):=by
 have hb:¬(t<1∨1073741824<t∨shapeB e=false):=by
  intro hc
  unfold addX at h
  rw [if_pos hc] at h
  exact absurd h (by decide)
 have hs:shapeB e=true:=by
  cases hq:shapeB e
  ·exact absurd (Or.inr (Or.inr hq)) hb
  ·rfl
 unfold replayJ recE
 rw [intsF_cons,intsF_cons,intsF_nil,List.append_nil,List.append_assoc,tkJ_int 2 (by decide) (by decide)]
 simp only
 rw [tkJ_int t (by omega) (by omega)]
 simp only [replayB]
 rw [if_neg (by decide),if_pos trivial]
 have:=readE_back e he hs []
 rw [List.append_nil] at this
 rw [this]
 simp only [true_and,h,if_true]
theorem foldJ_append (s:Js) (rs qs:List (List UInt8)):foldJ s (rs++qs)=(foldJ s rs).bind fun s' =>foldJ s' qs:=by
 induction rs generalizing s with
 |nil=>rfl
 |cons r rs ih=>
  simp only [List.cons_append,foldJ]
  cases replayJ s r with
  |none=>rfl
  |some s' =>simpa using ih s'
structure Good (xs:List UInt8) (s:Js) (rs:List (List UInt8)):Prop where
 bytes:xs=frames 8 rs
 small:∀r∈rs,r.length≤65536
 makes:foldJ jsNew rs=some s
theorem Good.new:Good [] jsNew []:=⟨rfl,fun _ h=>(by cases h),rfl⟩
theorem Good.snoc {xs:List UInt8} {s s' :Js} {rs:List (List UInt8)} (h:Good xs s rs) (r:List UInt8) (hr:r.length≤65536) (hq:replayJ s r=some s'):Good (xs++putN 8 r) s' (rs++[r]):=by
 refine ⟨by rw [frames_append,h.bytes];simp [frames],?_,?_⟩
 ·intro q hq
  rcases List.mem_append.1 hq with h1|h1
  ·exact h.small q h1
  ·simp at h1;subst h1;exact hr
 ·rw [foldJ_append,h.makes]
  simp [foldJ,hq]
end Go.Proofs.Ytjnfmfmglehmbaa
