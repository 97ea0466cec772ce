/-
  The plain law of a copy of a tenant at a cell: what its history, its folds and its gate are. No program in sight.
-/
import Derived.Test.YtodkhcbjpodgeaaGreatG00
import Derived.Maps.Views
namespace Go.Proofs.YtodkhcbjpodgeaaGreat
set_option linter.unusedVariables false
set_option maxRecDepth 100000
set_option maxHeartbeats 4000000
structure Ch where
 ep:Int
 sq:Int
 kd:Int
 cl:Int
 nm:Int
 it:Int
 ky:ByteArray
 vl:ByteArray
deriving DecidableEq
structure It where
 nm:Int
 vl:ByteArray
deriving DecidableEq
structure Le where
 it:Int
 cl:Int
 ep:Int
 un:Int
deriving DecidableEq
structure Rp where
 er:Int
 sq:Int
 it:Int
 vl:ByteArray
deriving DecidableEq
structure Ss where
 nm:Int
 rp:Rp
deriving DecidableEq
structure Wn where
 cl:Int
 ep:Int
 vs:Int
 fm:Int
 un:Int
deriving DecidableEq
structure Rq where
 tn:Int
 cl:Int
 nm:Int
 op:Int
 it:Int
 ky:ByteArray
 vl:ByteArray
deriving DecidableEq
abbrev noS:ByteArray:=⟨#[]⟩
def rp0:Rp:=⟨0,0,0,noS⟩
def rpE (e:Int):Rp:=⟨e,0,0,noS⟩
def iF (s:ByteArray):Bool:=decide (1≤s.size) && decide (s.size≤16)
def iP (s:ByteArray):Bool:=decide (s.size≤64)
def btw (lo hi x:Int):Bool:=decide (lo≤x) && decide (x≤hi)
def chB (x:Ch):Bool:=
 btw 1 1048576 x.ep && btw 1 4096 x.sq && btw 1 8 x.cl && btw 1 1048576 x.nm &&
 (if x.kd=1 then iF x.ky && iP x.vl && decide (x.it=0)
  else if x.kd=2 then iF x.ky && decide (x.vl=noS) && decide (x.it=0)
  else if x.kd=3 then decide (x.ky=noS) && iP x.vl && decide (x.it=0)
  else if x.kd=4 then decide (x.ky=noS) && decide (x.vl=noS) && decide (1≤x.it) && decide (x.it<x.sq)
  else false)
structure Nw where
 D:DataW Unit
 its:List It
 les:List Le
 gr:Int
 ss:List Ss
def kL (k:ByteArray):Lit:= .string k.data.toList
def wD (v:ByteArray)(n:Int):DataW Unit:= .agg [.lit (.string v.data.toList),.lit (.int .i64 n)]
def nw0:Nw:=⟨.map [],[],[],0,List.replicate 8 ⟨0,rp0⟩⟩
def jh (x:Ch):Int:=if x.kd=3 then x.sq else if x.kd=4 then x.it else 0
def gu (ss:List Ss)(x:Ch):Int×List Ss:=
 if !chB x then (1,ss)
 else if x.nm≠(ss.getD (x.cl-1).toNat ⟨0,rp0⟩).nm+1 then (32,ss)
 else (0,ss.set (x.cl-1).toNat ⟨x.nm,⟨0,x.sq,jh x,noS⟩⟩)
def iQ (D:DataW Unit)(x:Ch):Int×DataW Unit:=
 if !chB x then (1,D)
 else if x.kd=1 then (if !Maps.has D (kL x.ky) && decide (32≤Maps.size D) then (33,D) else (0,D.put (kL x.ky) (wD x.vl x.sq)))
 else if x.kd=2 then (if Maps.has D (kL x.ky) then (0,D.del (kL x.ky)) else (34,D))
 else (0,D)
def gD (its:List It)(les:List Le)(gr:Int)(x:Ch):Int×List It×List Le×Int:=
 if !chB x then (1,its,les,gr)
 else if x.kd=3 then
  if x.sq≤gr then (36,its,les,gr) else if 16≤its.length then (33,its,les,gr) else (0,its++[⟨x.sq,x.vl⟩],les,x.sq)
 else if x.kd=4 then
  if its.any (fun t=>t.nm == x.it) then (0,its.eraseP (fun t=>t.nm == x.it),les.filter (fun l=> !(l.it == x.it)),gr) else (34,its,les,gr)
 else (0,its,les,gr)
def cu (s:Nw)(x:Ch):Int×Nw:=
 if (gu s.ss x).1≠0 then ((gu s.ss x).1,{s with ss:=(gu s.ss x).2})
 else if (iQ s.D x).1≠0 then ((iQ s.D x).1,{s with ss:=(gu s.ss x).2,D:=(iQ s.D x).2})
 else ((gD s.its s.les s.gr x).1,⟨(iQ s.D x).2,(gD s.its s.les s.gr x).2.1,(gD s.its s.les s.gr x).2.2.1,(gD s.its s.les s.gr x).2.2.2,(gu s.ss x).2⟩)
structure Kp where
 cell:Int
 ten:Int
 h:List Ch
 nw:Nw
 cd:Int
 ws:List Wn
def cs0 (cell ten:Int):Kp:=⟨cell,ten,[],nw0,0,[]⟩
def Kp.ep (c:Kp):Int:=match c.h.getLast? with|none=>0|some x=>x.ep
def aH (c:Kp)(x:Ch):Int×Kp:=
 if !chB x then (1,c)
 else if x.sq≠(c.h.length:Int)+1 || decide (x.ep<c.ep) then (36,c)
 else if (cu c.nw x).1≠0 then ((cu c.nw x).1,c)
 else (0,{c with h:=c.h++[x],nw:=(cu c.nw x).2})
def lV (ws:List Wn)(v t:Int):Int:=ws.foldl (fun e w=>if w.vs=v∧w.fm≤t∧t<w.un then max e w.ep else e) 0
def rqB (r:Rq):Bool:=
 decide (0≤r.tn) && decide (r.tn<32) && btw 1 8 r.cl &&
 (if r.op=1 then decide (r.nm=0) && decide (r.it=0) && iF r.ky && decide (r.vl=noS)
  else if r.op=2 then btw 1 1048576 r.nm && decide (r.it=0) && iF r.ky && iP r.vl
  else if r.op=3 then btw 1 1048576 r.nm && decide (r.it=0) && iF r.ky && decide (r.vl=noS)
  else if r.op=4 then btw 1 1048576 r.nm && decide (r.it=0) && decide (r.ky=noS) && iP r.vl
  else if r.op=5 then decide (r.nm=0) && decide (r.it=0) && decide (r.ky=noS) && decide (r.vl=noS)
  else if r.op=6 then btw 1 1048576 r.nm && decide (1≤r.it) && decide (r.it≤4096) && decide (r.ky=noS) && decide (r.vl=noS)
  else false)
def findF (ss:List Ss)(cl nm:Int):Rp×Int:=
 if !(btw 1 8 cl && btw 1 1048576 nm) then (rp0,1)
 else if nm=(ss.getD (cl-1).toNat ⟨0,rp0⟩).nm+1 then (rp0,34)
 else if nm=(ss.getD (cl-1).toNat ⟨0,rp0⟩).nm then ((ss.getD (cl-1).toNat ⟨0,rp0⟩).rp,0)
 else (rp0,32)
def yM (l:Le)(ep t:Int):Bool:=decide (l.ep=ep) && decide (t<l.un)
def sI (les:List Le)(cl ep it t:Int):Bool:=les.any fun l=>decide (l.it=it) && decide (l.cl=cl) && yM l ep t
def opF (c:Kp)(ep t:Int)(r:Rq):Int×Int:=
 if r.op=2 then (if !Maps.has c.nw.D (kL r.ky) && decide (32≤Maps.size c.nw.D) then (0,33) else (1,0))
 else if r.op=3 then (if Maps.has c.nw.D (kL r.ky) then (2,0) else (0,34))
 else if r.op=4 then (if 16≤c.nw.its.length then (0,33) else (3,0))
 else if !c.nw.its.any (fun x=>x.nm == r.it) then (0,34)
 else if !sI c.nw.les r.cl ep r.it t then (0,35)
 else (4,0)
def wrF (c:Kp)(ep t:Int)(r:Rq):Rp×Kp:=
 if (findF c.nw.ss r.cl r.nm).2=0 then ((findF c.nw.ss r.cl r.nm).1,c)
 else if (findF c.nw.ss r.cl r.nm).2≠34 then (rpE (findF c.nw.ss r.cl r.nm).2,c)
 else if 4096≤c.h.length then (rpE 2,c)
 else if (opF c ep t r).2≠0 then (rpE (opF c ep t r).2,c)
 else
  let x:Ch:=⟨ep,(c.h.length:Int)+1,(opF c ep t r).1,r.cl,r.nm,r.it,r.ky,r.vl⟩
  if (aH c x).1≠0 then (rpE (aH c x).1,(aH c x).2)
  else ((findF (aH c x).2.nw.ss r.cl r.nm).1,(aH c x).2)
def sK (D:DataW Unit)(k:ByteArray):ByteArray×Int×Bool:=
 match D.atKey (kL k) (wD noS 0) with
 | .agg [.lit (.string l),.lit (.int .i64 n)]=>(⟨l.toArray⟩,n,Maps.has D (kL k))
 |_=>(noS,0,false)
def ap1 (les:List Le)(l:Le):List Le:=
 if (les.drop (les.countP fun x=>decide (x.it<l.it))).head?.any (fun x=>decide (x.it=l.it))
 then les.set (les.countP fun x=>decide (x.it<l.it)) l
 else les.take (les.countP fun x=>decide (x.it<l.it))++l :: les.drop (les.countP fun x=>decide (x.it<l.it))
def arf (les:List Le)(ep t:Int)(x:It):Bool:=les.any fun l=>decide (l.it=x.nm) && yM l ep t
def nP (s:Nw)(cl ep t:Int):Option It×List Le:=
 match s.its.find? (fun x=> !arf s.les ep t x) with
 |none=>(none,s.les)
 |some x=>(some x,ap1 s.les ⟨x.nm,cl,ep,t+20⟩)
def exF (c:Kp)(v t:Int)(r:Rq):Rp×Kp:=
 if !rqB r || decide (r.tn≠c.ten) || decide (t<0) || decide (1073741824<t) then (rpE 1,c)
 else if lV c.ws v t≤0 || decide (lV c.ws v t<c.ep) then (rpE 30,c)
 else if r.op=1 then (if (sK c.nw.D r.ky).2.2 then (⟨0,(sK c.nw.D r.ky).2.1,0,(sK c.nw.D r.ky).1⟩,c) else (rpE 34,c))
 else if r.op=5 then
  match nP c.nw r.cl (lV c.ws v t) t with
  |(none,_)=>(rpE 34,c)
  |(some x,les)=>(⟨0,0,x.nm,x.vl⟩,{c with nw:={c.nw with les:=les}})
 else wrF c (lV c.ws v t) t r
def Nw.strip (s:Nw):Nw:={s with les:=[]}
theorem mO (s t:Nw)(x:Ch)(h:s.strip=t.strip):(cu s x).1=(cu t x).1∧(cu s x).2.strip=(cu t x).2.strip:=by
 obtain ⟨D,its,les,gr,ss⟩:=s;obtain ⟨D',ax4,asw,gr',ss'⟩:=t;simp only [Nw.strip,Nw.mk.injEq,true_and] at h;obtain ⟨rfl,rfl,rfl,rfl⟩:=h;unfold cu;simp only
 split
 ·exact ⟨rfl,rfl⟩
 ·split
  ·exact ⟨rfl,rfl⟩
  ·unfold gD Nw.strip
   simp only
   split
   ·exact ⟨rfl,rfl⟩
   ·split
    ·split
     ·exact ⟨rfl,rfl⟩
     ·split<;>exact ⟨rfl,rfl⟩
    ·split
     ·split<;>exact ⟨rfl,rfl⟩
     ·exact ⟨rfl,rfl⟩
def tV (o:Option Nw)(x:Ch):Option Nw:=o.bind fun s=>if (cu s x).1=0 then some (cu s x).2 else none
def runN (h:List Ch):Option Nw:=h.foldl tV (some nw0)
theorem iZ (h:List Ch)(x:Ch):runN (h++[x])=tV (runN h) x:=by simp [runN,List.foldl_append]
theorem rE {h:List Ch}{n:Nw}(hr:runN h=some n):∀i,∃m,runN (h.take i)=some m:=by
 have key:∀(k:Nat),k≤h.length→∃m,runN (h.take (h.length-k))=some m:=by
  intro k
  induction k with
  |zero=>intro _;rw [Nat.sub_zero,List.take_length];exact ⟨n,hr⟩
  |succ k ih=>
   intro hk;obtain ⟨m,hm⟩:=ih (by omega);have hlt:h.length-(k+1)<h.length:=by omega
   have e:h.take (h.length-k)=h.take (h.length-(k+1))++[h[h.length-(k+1)]]:=by
    rw [show h.length-k=h.length-(k+1)+1 from by omega,List.take_add_one,List.getElem?_eq_getElem hlt]
    rfl
   rw [e,iZ] at hm
   cases hq:runN (h.take (h.length-(k+1))) with
   |none=>rw [hq] at hm;cases hm
   |some q=>exact ⟨q,rfl⟩
 intro i
 rcases Nat.lt_or_ge i h.length with hi|hi
 ·obtain ⟨m,hm⟩:=key (h.length-i) (by omega)
  rw [show h.length-(h.length-i)=i from by omega] at hm;exact ⟨m,hm⟩
 ·rw [List.take_of_length_le hi];exact ⟨n,hr⟩
structure HOk (h:List Ch):Prop where
 sq:∀(i:Nat) (x:Ch),h[i]? =some x→x.sq=(i:Int)+1∧chB x=true
 ep:∀(i j:Nat) (x y:Ch),i≤j→h[i]? =some x→h[j]? =some y→x.ep≤y.ep
structure kF (c:Kp):Prop where
 h:HOk c.h
 run:∃n,runN c.h=some n∧n.strip=c.nw.strip
theorem kF.zero (a b:Int):kF (cs0 a b):=⟨⟨fun i x h=>by simp [cs0] at h,fun i j x y _ h=>by simp [cs0] at h⟩,⟨nw0,rfl,rfl⟩⟩
theorem Kp.ang (c:Kp):c.ep=match c.h.getLast? with|none=>0|some x=>x.ep:=rfl
theorem lC {h:List Ch}{x:Ch}(e:h.getLast? =some x):h[h.length-1]? =some x:=by rwa [List.getLast?_eq_getElem?] at e
theorem HOk.ep0 {h:List Ch}(o:HOk h){i:Nat}{x:Ch}(hx:h[i]? =some x):1≤x.ep:=by
 have:=(o.sq i x hx).2;unfold chB btw at this;simp only [Bool.and_eq_true,decide_eq_true_eq] at this
 omega
theorem sQ {c:Kp}(o:kF c){H:List Ch}{n:Nw}(hH:HOk H)(hr:runN H=some n){i:Nat}{x:Ch}(hc:c.h=H.take i)(hx:H[i]? =some x):
  (aH c x).1=0∧(aH c x).2.h=H.take (i+1)∧kF (aH c x).2∧(aH c x).2.cell=c.cell∧(aH c x).2.ten=c.ten∧(aH c x).2.cd=c.cd∧(aH c x).2.ws=c.ws:=by
 have hi:i<H.length:=(List.getElem?_eq_some_iff.1 hx).1;have hlen:c.h.length=i:=by rw [hc,List.length_take];omega
 obtain ⟨h1,h2⟩:=hH.sq i x hx;have htk:H.take (i+1)=c.h++[x]:=by rw [List.take_add_one,hx,hc];rfl
 have hep:¬x.ep<c.ep:=by
  rw [Kp.ang]
  cases hl:c.h.getLast? with
  |none=>have:=hH.ep0 hx;simp only;omega
  |some y=>
   have hy:=lC hl;rw [hlen,hc,List.getElem?_take] at hy
   split at hy
   ·have:=hH.ep _ _ y x (by omega) hy hx;simp only;omega
   ·cases hy
 obtain ⟨m,hm,hs⟩:=o.run;obtain ⟨q,hq⟩:=rE hr (i+1);rw [htk,iZ,hm] at hq;have hst:=mO m c.nw x hs;have h0:(cu m x).1=0:=by
  by_cases h0:(cu m x).1=0
  ·exact h0
  ·simp [tV,h0] at hq
 have hap:aH c x=(0,{c with h:=c.h++[x],nw:=(cu c.nw x).2}):=by
  unfold aH;rw [h2,if_neg (by simp),if_neg (by simp [hlen,h1,hep]),if_neg (by rw [←hst.1,h0];simp)]
 rw [hap];refine ⟨rfl,htk.symm,⟨?_,?_⟩,rfl,rfl,rfl,rfl⟩
 ·rw [←htk]
  refine ⟨fun j y hy=> ?_,fun j k y z hjk hy hz=> ?_⟩
  ·rw [List.getElem?_take] at hy
   split at hy
   ·exact hH.sq j y hy
   ·cases hy
  ·rw [List.getElem?_take] at hy hz
   split at hy
   ·split at hz
    ·exact hH.ep j k y z hjk hy hz
    ·cases hz
   ·cases hy
 ·refine ⟨(cu m x).2,?_,hst.2⟩
  rw [iZ,hm]
  simp [tV,h0]
theorem zf {c:Kp}(o:kF c)(x:Ch):kF (aH c x).2∧((aH c x).1=0→(aH c x).2.h=c.h++[x])∧((aH c x).1≠0→(aH c x).2=c):=by
 unfold aH
 split
 ·exact ⟨o,fun h=>by simp at h,fun _=>rfl⟩
 split
 ·exact ⟨o,fun h=>by simp at h,fun _=>rfl⟩
 rename_i h1 h2
 split
 ·rename_i h3;exact ⟨o,fun h=>absurd h h3,fun _=>rfl⟩
 rename_i h3
 have h3:(cu c.nw x).1=0:=by omega
 simp only [Bool.not_eq_true,Bool.not_eq_false'] at h1;simp only [Bool.or_eq_true,decide_eq_true_eq,not_or] at h2;obtain ⟨h2,h2'⟩:=h2;have h2:x.sq=(c.h.length:Int)+1:=by omega
 refine ⟨⟨⟨fun i y hy=> ?_,fun i j y z hij hy hz=> ?_⟩,?_⟩,fun _=>rfl,fun h=>absurd rfl h⟩
 ·rw [List.getElem?_append] at hy
  split at hy
  ·exact o.h.sq i y hy
  ·rename_i hi
   have:i-c.h.length=0:=by
    have:=(List.getElem?_eq_some_iff.1 hy).1
    simp at this;omega
   rw [this] at hy
   simp at hy
   subst hy;exact ⟨by rw [h2];congr 1;omega,h1⟩
 ·rw [List.getElem?_append] at hy hz
  split at hz
  ·rw [if_pos (by omega)] at hy
   exact o.h.ep i j y z hij hy hz
  ·rename_i hj
   have:j-c.h.length=0:=by
    have:=(List.getElem?_eq_some_iff.1 hz).1
    simp at this;omega
   rw [this] at hz
   simp at hz
   subst hz
   split at hy
   ·rename_i hi
    have hep:=Kp.ang c
    cases hl:c.h.getLast? with
    |none=>rw [List.getLast?_eq_none_iff] at hl;rw [hl] at hi;simp at hi
    |some q=>
     rw [hl] at hep;have hq:=lC hl;have:=o.h.ep i (c.h.length-1) y q (by omega) hy hq;simp only at hep
     omega
   ·have:i-c.h.length=0:=by
     have:=(List.getElem?_eq_some_iff.1 hy).1
     simp at this;omega
    rw [this] at hy
    simp at hy
    subst hy;exact Int.le_refl _
 ·obtain ⟨m,hm,hs⟩:=o.run
  have hst:=mO m c.nw x hs;refine ⟨(cu m x).2,?_,hst.2⟩;rw [iZ,hm];simp only [tV,Option.bind_some,hst.1,h3,if_true]
def al6 (h:List Ch)(cl:Int):Option Ch:=(h.filter fun x=>x.cl == cl).getLast?
theorem ahm {x:Ch}(h:chB x=true):1≤x.cl∧x.cl≤8∧1≤x.nm∧x.nm≤1048576∧1≤x.ep∧x.ep≤1048576:=by
 unfold chB btw at h;simp only [Bool.and_eq_true,decide_eq_true_eq] at h
 omega
theorem vW {ss:List Ss}{x:Ch}(h:(gu ss x).1=0):chB x=true∧x.nm=(ss.getD (x.cl-1).toNat ⟨0,rp0⟩).nm+1∧(gu ss x).2=ss.set (x.cl-1).toNat ⟨x.nm,⟨0,x.sq,jh x,noS⟩⟩:=by
 unfold gu at*
 by_cases h1:chB x=true
 ·by_cases h2:x.nm=(ss.getD (x.cl-1).toNat ⟨0,rp0⟩).nm+1
  ·rw [h1,if_neg (by simp),if_neg (by simp [h2])];exact ⟨rfl,h2,rfl⟩
  ·rw [h1,if_neg (by simp),if_pos h2] at h;simp at h
 ·rw [Bool.not_eq_true] at h1;rw [h1,if_pos (by simp)] at h;simp at h
theorem wM {s:Nw}{x:Ch}(h:(cu s x).1=0):(gu s.ss x).1=0∧(iQ s.D x).1=0∧(gD s.its s.les s.gr x).1=0∧(cu s x).2=⟨(iQ s.D x).2,(gD s.its s.les s.gr x).2.1,(gD s.its s.les s.gr x).2.2.1,(gD s.its s.les s.gr x).2.2.2,(gu s.ss x).2⟩:=by
 unfold cu at*
 by_cases h1:(gu s.ss x).1=0
 ·by_cases h2:(iQ s.D x).1=0
  ·rw [if_neg (by simp [h1]),if_neg (by simp [h2])] at h ⊢;exact ⟨h1,h2,h,rfl⟩
  ·rw [if_neg (by simp [h1]),if_pos h2] at h;exact absurd h h2
 ·rw [if_pos h1] at h;exact absurd h h1
theorem gX {h:List Ch}{x:Ch}{n:Nw}(hr:runN (h++[x])=some n):∃m,runN h=some m∧(cu m x).1=0∧n=(cu m x).2:=by
 rw [iZ] at hr
 cases hq:runN h with
 |none=>rw [hq] at hr;cases hr
 |some m=>
  rw [hq] at hr
  by_cases h0:(cu m x).1=0
  ·simp [tV,h0] at hr;exact ⟨m,rfl,h0,hr.symm⟩
  ·simp [tV,h0] at hr
theorem ain:∀(k:Nat) (h:List Ch) (n:Nw),h.length=k→runN h=some n→n.ss.length=8∧∀cl:Int,1≤cl→cl≤8→
  n.ss.getD (cl-1).toNat ⟨0,rp0⟩=match al6 h cl with|none=>⟨0,rp0⟩|some x=>⟨x.nm,⟨0,x.sq,jh x,noS⟩⟩:=by
 intro k
 induction k with
 |zero=>
  intro h n hl hr;rw [List.length_eq_zero_iff] at hl;subst hl;have:n=nw0:=by simpa [runN] using hr.symm
  subst this;refine ⟨rfl,fun cl h1 h2=> ?_⟩;have hc:cl=1∨cl=2∨cl=3∨cl=4∨cl=5∨cl=6∨cl=7∨cl=8:=by omega
  rcases hc with rfl|rfl|rfl|rfl|rfl|rfl|rfl|rfl<;>rfl
 |succ k ih=>
  intro h n hl hr;obtain ⟨g,x,rfl⟩:∃g x,h=g++[x]:=⟨h.dropLast,h.getLast (by intro e;simp [e] at hl),(List.dropLast_concat_getLast _).symm⟩;obtain ⟨m,hm,h0,rfl⟩:=gX hr;obtain ⟨i1,i2⟩:=ih g m (by simp at hl;exact hl) hm;obtain ⟨a1,_,_,a4⟩:=wM h0;obtain ⟨b1,b2,b3⟩:=vW a1;obtain ⟨c1,c2,_⟩:=ahm b1;rw [a4];simp only;rw [b3];refine ⟨by rw [List.length_set];exact i1,fun cl h1 h2=> ?_⟩;have hq:=i2 cl h1 h2;unfold al6 at hq ⊢;rw [List.filter_append,List.filter_cons,List.filter_nil]
  by_cases he:x.cl=cl
  ·rw [if_pos (by simp [he]),List.getLast?_append,List.getLast?_singleton]
   subst he;simp only [Option.some_or];rw [List.getD_eq_getElem?_getD,List.getElem?_set_self (by omega)]
   rfl
  ·rw [if_neg (by simp [he]),List.append_nil,←hq,List.getD_eq_getElem?_getD,List.getD_eq_getElem?_getD,List.getElem?_set_ne (by omega)]
structure aoi (c d:Kp) (e:Int):Prop where
 ok:kF d
 h:d.h=c.h∨∃x,d.h=c.h++[x]∧x.ep=e
 cell:d.cell=c.cell
 ten:d.ten=c.ten
 cd:d.cd=c.cd
 ws:d.ws=c.ws
theorem aoi.same {c:Kp}(o:kF c)(e:Int):aoi c c e:=⟨o,.inl rfl,rfl,rfl,rfl,rfl⟩
theorem nT (c:Kp)(x:Ch):(aH c x).2.cell=c.cell∧(aH c x).2.ten=c.ten∧(aH c x).2.cd=c.cd∧(aH c x).2.ws=c.ws:=by
 unfold aH
 split
 ·exact ⟨rfl,rfl,rfl,rfl⟩
 split
 ·exact ⟨rfl,rfl,rfl,rfl⟩
 split<;>exact ⟨rfl,rfl,rfl,rfl⟩
theorem oP {c:Kp}(o:kF c)(x:Ch):aoi c (aH c x).2 x.ep:=by
 obtain ⟨h1,h2,h3⟩:=zf o x;obtain ⟨f1,f2,f3,f4⟩:=nT c x;refine ⟨h1,?_,f1,f2,f3,f4⟩
 by_cases h0:(aH c x).1=0
 ·exact .inr ⟨x,h2 h0,rfl⟩
 ·exact .inl (by rw [h3 h0])
theorem ak4 {c:Kp}(o:kF c)(e t:Int)(r:Rq):aoi c (wrF c e t r).2 e:=by
 unfold wrF
 split
 ·exact .same o e
 split
 ·exact .same o e
 split
 ·exact .same o e
 split
 ·exact .same o e
 simp only
 split
 ·exact oP o ⟨e,_,_,_,_,_,_,_⟩
 ·exact oP o ⟨e,_,_,_,_,_,_,_⟩
theorem anf {c:Kp}(o:kF c)(v t:Int)(r:Rq):aoi c (exF c v t r).2 (lV c.ws v t):=by
 unfold exF
 split
 ·exact .same o _
 split
 ·exact .same o _
 split
 ·split<;>exact .same o _
 split
 ·cases h:nP c.nw r.cl (lV c.ws v t) t with
  |mk q les=>
   cases q with
   |none=>exact .same o _
   |some x=>exact ⟨⟨o.h,o.run⟩,.inl rfl,rfl,rfl,rfl,rfl⟩
 ·exact ak4 o _ _ _
structure Sh where
 ep:Int
 sq:Int
 bf:Int
 cs:List Ch
structure Hd where
 ep:Int
 ap:Int
 ok:Bool
deriving DecidableEq
structure Pg where
 rq:Bool
 ap:Int
 nx:Int
deriving DecidableEq
def hd0:Hd:=⟨0,0,false⟩
def agz (sq ep:Int):List Ch→Nat→Int→Bool
 |[],_,_=>true
 |x :: r,i,bf=>chB x && decide (x.sq=sq+1+(i:Int)) && decide (bf≤x.ep) && decide (x.ep≤ep) && agz sq ep r (i+1) x.ep
def shB (m:Sh):Bool:=
 btw 1 1048576 m.ep && btw 0 4096 m.sq && btw 0 m.ep m.bf && decide (m.sq=0↔m.bf=0) && decide (m.cs.length≤8) && agz m.sq m.ep m.cs 0 m.bf
def uJ (h:List Ch)(sq ep:Int):Bool:=
 if sq=0∧ep=0 then true else if sq<1∨(h.length:Int)<sq then false else
 match h[(sq-1).toNat]? with|some x=>decide (x.sq=sq) && decide (x.ep=ep)|none=>false
def aO (c:Kp)(n:Nat):Kp:={c with h:=c.h.take n,nw:=(c.h.take n).foldl (fun s x=>(cu s x).2) nw0}
def gK (H0:List Ch):List Ch→Kp→Int→Kp×Int
 |[],c,ap=>(c,ap)
 |x :: r,c,ap=>
  if (c.h.length:Int)<x.sq∨(H0.getD (x.sq-1).toNat ⟨0,0,0,0,0,0,noS,noS⟩).ep≠x.ep then
   if (aH (aO c (x.sq-1).toNat) x).1≠0 then ((aH (aO c (x.sq-1).toNat) x).2,ap)
   else gK H0 r (aH (aO c (x.sq-1).toNat) x).2 x.sq
  else gK H0 r c x.sq
def dz (ep:Int)(p:Pg)(h:List Ch):Sh:=
 ⟨ep,min p.nx h.length,if 0<min p.nx (h.length:Int) then (h.getD (min p.nx (h.length:Int)-1).toNat ⟨0,0,0,0,0,0,noS,noS⟩).ep else 0,(h.drop (min p.nx (h.length:Int)).toNat).take 8⟩
def gZ (p:Pg)(m:Hd):Pg:=if m.ok then {p with ap:=max p.ap m.ap,nx:=max p.ap m.ap} else {p with nx:=max (min p.nx m.ap) p.ap}
structure ade (ep:Int) (H:List Ch) (m:Sh):Prop where
 ep:m.ep=ep
 ex:∃n k:Nat,m.sq=n∧n≤H.length∧k≤8∧m.cs=(H.drop n).take k∧m.bf=if n=0 then 0 else (H.getD (n-1) ⟨0,0,0,0,0,0,noS,noS⟩).ep
theorem ade.grow {ep:Int}{H:List Ch}{m:Sh}(h:ade ep H m)(x:List Ch):ade ep (H++x) m:=by
 obtain ⟨h1,n,k,h2,h3,h4,h5,h6⟩:=h;refine ⟨h1,n,min k (H.length-n),h2,by rw [List.length_append];omega,by omega,?_,?_⟩
 ·rw [h5,List.drop_append_of_le_length h3,List.take_append_of_le_length (by rw [List.length_drop];omega)]
  rcases Nat.le_total k (H.length-n) with h|h
  ·rw [Nat.min_eq_left h]
  ·rw [Nat.min_eq_right h,List.take_of_length_le (by rw [List.length_drop];exact h),List.take_of_length_le (by rw [List.length_drop];exact Nat.le_refl _)]
 ·rw [h6]
  by_cases hn:n=0
  ·rw [if_pos hn,if_pos hn]
  ·rw [if_neg hn,if_neg hn,List.getD_eq_getElem?_getD,List.getD_eq_getElem?_getD,List.getElem?_append_left (by omega)]
theorem lM (ep:Int)(p:Pg)(H:List Ch)(h0:0≤p.nx):ade ep H (dz ep p H):=by
 have e:min p.nx (H.length:Int)=((min p.nx (H.length:Int)).toNat:Int):=by omega
 refine ⟨rfl,(min p.nx (H.length:Int)).toNat,8,e,by omega,Nat.le_refl _,rfl,?_⟩;simp only [dz]
 by_cases hz:0<min p.nx (H.length:Int)
 ·rw [if_pos hz,if_neg (by omega)]
  congr 2
  omega
 ·rw [if_neg hz,if_pos (by omega)]
theorem af9 {H:List Ch}(o:HOk H){ep:Int}(hep:∀x∈H,x.ep≤ep)(n:Nat):∀(k i:Nat) (bf:Int),n+i≤H.length→(∀x,H[n+i]? =some x→bf≤x.ep)→agz n ep ((H.drop (n+i)).take k) i bf=true:=by
 intro k
 induction k with
 |zero=>intro i bf _ _;rfl
 |succ k ih=>
  intro i bf hi hb
  cases hx:H[n+i]? with
  |none=>
   rw [List.getElem?_eq_none_iff] at hx;rw [List.drop_eq_nil_of_le hx]
   rfl
  |some x=>
   have hlt:=(List.getElem?_eq_some_iff.1 hx).1;have hgx:=(List.getElem?_eq_some_iff.1 hx).2;rw [List.drop_eq_getElem_cons hlt,hgx,List.take_succ_cons];obtain ⟨q1,q2⟩:=o.sq (n+i) x hx;have q3:=hb x hx;have q4:=hep x (List.mem_of_getElem? hx);simp only [agz,q2,Bool.true_and];rw [decide_eq_true (show x.sq=(n:Int)+1+(i:Int) from by rw [q1];omega),decide_eq_true q3,decide_eq_true q4];simp only [Bool.true_and];exact ih (i+1) x.ep (by omega) (fun y hy=>o.ep (n+i) (n+(i+1)) x y (by omega) hx hy)
theorem ade.valid {ep:Int}{H:List Ch}{m:Sh}(h:ade ep H m)(o:HOk H)(hep:∀x∈H,x.ep≤ep)(he1:1≤ep)(he2:ep≤1048576)(hl:H.length≤4096):shB m=true:=by
 obtain ⟨h1,n,k,h2,h3,h4,h5,h6⟩:=h;have hbf:(∀x,H[n]? =some x→m.bf≤x.ep)∧0≤m.bf∧m.bf≤ep∧(m.sq=0↔m.bf=0):=by
  by_cases hn:n=0
  ·rw [if_pos hn] at h6
   subst hn;refine ⟨fun x hx=>by have:=o.ep0 hx;omega,by omega,by omega,?_⟩;rw [h2,h6];simp
  ·rw [if_neg hn] at h6
   have hlt:n-1<H.length:=by omega
   have hg:H[n-1]? =some H[n-1]:=List.getElem?_eq_getElem hlt;rw [List.getD_eq_getElem?_getD,hg,Option.getD_some] at h6;have p1:=o.ep0 hg;have p2:=hep _ (List.mem_of_getElem? hg);refine ⟨fun x hx=>by rw [h6];exact o.ep _ _ _ _ (by omega) hg hx,by omega,by omega,?_⟩;rw [h2,h6]
   constructor<;>intro h<;>omega
 obtain ⟨b1,b2,b3,b4⟩:=hbf;have hc:=af9 o hep n k 0 m.bf (by omega) b1;rw [Nat.add_zero,←h5] at hc;unfold shB btw;rw [h1,h2] at*;rw [hc,decide_eq_true he1,decide_eq_true he2,decide_eq_true (show (0:Int)≤(n:Int) from by omega),decide_eq_true (show (n:Int)≤4096 from by omega),decide_eq_true b2,decide_eq_true b3,decide_eq_true b4,decide_eq_true (show m.cs.length≤8 from by rw [h5,List.length_take];omega)]
 rfl
abbrev ch0:Ch:=⟨0,0,0,0,0,0,noS,noS⟩
theorem uU:∀(k:Nat) (h:List Ch) (n:Nw),h.length=k→runN h=some n→(h.foldl (fun s x=>(cu s x).2) nw0)=n:=by
 intro k
 induction k with
 |zero=>
  intro h n hl hr;rw [List.length_eq_zero_iff] at hl;subst hl
  simpa [runN] using hr
 |succ k ih=>
  intro h n hl hr;obtain ⟨g,x,rfl⟩:∃g x,h=g++[x]:=⟨h.dropLast,h.getLast (by intro e;simp [e] at hl),(List.dropLast_concat_getLast _).symm⟩;obtain ⟨m,hm,h0,rfl⟩:=gX hr;rw [List.foldl_append,ih g m (by simp at hl;exact hl) hm]
  rfl
theorem HOk.take {h:List Ch}(o:HOk h)(n:Nat):HOk (h.take n):=by
 refine ⟨fun i x hx=> ?_,fun i j x y hij hx hy=> ?_⟩
 ·rw [List.getElem?_take] at hx
  split at hx
  ·exact o.sq i x hx
  ·cases hx
 ·rw [List.getElem?_take] at hx hy
  split at hx
  ·split at hy
   ·exact o.ep i j x y hij hx hy
   ·cases hy
  ·cases hx
theorem oO {c:Kp}(o:kF c)(n:Nat):kF (aO c n):=by
 obtain ⟨m,hm,_⟩:=o.run;obtain ⟨q,hq⟩:=rE hm n;exact ⟨o.h.take n,q,hq,by simp only [aO];rw [uU _ _ q rfl hq]⟩
theorem vC {c:Kp}(n:Nat)(h:c.h.length≤n):(aO c n).h=c.h:=List.take_of_length_le h
structure qF (c d:Kp):Prop where
 cell:d.cell=c.cell
 ten:d.ten=c.ten
 cd:d.cd=c.cd
 ws:d.ws=c.ws
theorem qF.trans {c d e:Kp}(h:qF c d)(k:qF d e):qF c e:=⟨k.cell.trans h.cell,k.ten.trans h.ten,k.cd.trans h.cd,k.ws.trans h.ws⟩
theorem ad4 {H:List Ch}{N:Nw}(oH:HOk H)(hr:runN H=some N){H0:List Ch}:∀(l:List Ch) (c:Kp) (p:Nat),kF c→c.h=H.take c.h.length→c.h.length≤H.length→p≤c.h.length→
  l=(H.drop p).take l.length→(c.h.length=p∨H0=c.h)→
  kF (gK H0 l c p).1∧(gK H0 l c p).1.h=H.take (max c.h.length (p+l.length))∧(gK H0 l c p).2=((p+l.length:Nat):Int)∧p+l.length≤H.length∧qF c (gK H0 l c p).1:=by
 intro l
 induction l with
 |nil=>intro c p o hc hle hp _ _;exact ⟨o,by simp only [gK,List.length_nil];rw [Nat.add_zero,Nat.max_eq_left hp];exact hc,rfl,by simp only [List.length_nil];omega,rfl,rfl,rfl,rfl⟩
 |cons x r ih=>
  intro c p o hc hle hp hl hd;have hlt:p<H.length:=by
   rcases Nat.lt_or_ge p H.length with h|h
   ·exact h
   ·rw [List.drop_eq_nil_of_le h] at hl;simp at hl
  rw [List.drop_eq_getElem_cons hlt,List.length_cons,List.take_succ_cons,List.cons.injEq] at hl;obtain ⟨hx,hrr⟩:=hl;have hgx:H[p]? =some x:=by rw [hx];exact List.getElem?_eq_getElem hlt
  obtain ⟨q1,q2⟩:=oH.sq p x hgx;rw [gK]
  by_cases hlen:c.h.length=p
  ·rw [if_pos (.inl (by omega))]
   have e1:(x.sq-1).toNat=p:=by omega
   have hc1:(aO c p).h=H.take p:=by rw [vC p (by omega),hc,hlen]
   obtain ⟨a1,a2,a3,a4,a5,a6,a7⟩:=sQ (oO o p) oH hr hc1 hgx;rw [e1,if_neg (by rw [a1];simp)];have hl2:(aH (aO c p) x).2.h.length=p+1:=by rw [a2,List.length_take];omega
   have:=ih (aH (aO c p) x).2 (p+1) a3 (by rw [hl2];exact a2) (by omega) (by omega) hrr (.inl hl2);rw [show ((p+1:Nat):Int)=x.sq from by omega] at this;obtain ⟨b1,b2,b3,b4,b5⟩:=this;rw [List.length_cons];refine ⟨b1,?_,?_,by omega,⟨a4,a5,a6,a7⟩|> fun (k:qF c _)=>k.trans b5⟩
   ·rw [b2,hl2];congr 1;omega
   ·rw [b3];congr 1;omega
  ·have hH0:H0=c.h:=hd.resolve_left hlen
   have hp' :p<c.h.length:=by omega
   have hcx:c.h[p]? =some x:=by rw [hc,List.getElem?_take,if_pos hp'];exact hgx
   rw [if_neg (by
    rintro (h|h)
    ·omega
    ·apply h
     rw [hH0,show (x.sq-1).toNat=p from by omega,List.getD_eq_getElem?_getD,hcx]
     rfl)]
   have:=ih c (p+1) o hc hle (by omega) hrr (.inr hH0);rw [show ((p+1:Nat):Int)=x.sq from by omega] at this;obtain ⟨b1,b2,b3,b4,b5⟩:=this;rw [List.length_cons];refine ⟨b1,?_,?_,by omega,b5⟩
   ·rw [b2];congr 1;omega
   ·rw [b3];congr 1;omega
structure FlT where
 r:Hd
 er:Int
 seen:Int
 agr:Int
 c:Kp
def bS (seen agr:Int)(c:Kp)(m:Sh):FlT:=
 if !shB m then ⟨hd0,1,seen,agr,c⟩
 else if m.ep<seen then ⟨hd0,20,seen,agr,c⟩
 else if (c.h.length:Int)<m.sq then ⟨⟨m.ep,c.h.length,false⟩,0,m.ep,agr,c⟩
 else if !uJ c.h m.sq m.bf then ⟨⟨m.ep,(c.h.findIdx fun x=>decide (x.ep=(c.h.getD (m.sq-1).toNat ch0).ep):Nat),false⟩,0,m.ep,agr,c⟩
 else
  let r:=gK c.h m.cs (if agr<m.ep then aO c m.sq.toNat else c) m.sq
  ⟨⟨m.ep,r.2,true⟩,0,m.ep,if agr<m.ep then m.ep else agr,r.1⟩
structure xL (E:Int) (H:List Ch) (seen agr:Int) (c:Kp):Prop where
 ok:kF c
 seen:seen≤E
 st:(agr=E∧c.h=H.take c.h.length∧c.h.length≤H.length)∨
  (agr<E∧(∀x∈c.h,x.ep<E)∧∀(n:Nat) (x y:Ch),c.h[n]? =some x→H[n]? =some y→x.ep=y.ep→c.h.take (n+1)=H.take (n+1))
theorem xL.grow {E:Int}{H:List Ch}{seen agr:Int}{c:Kp}(o:xL E H seen agr c){x:Ch}(hx:x.ep=E):xL E (H++[x]) seen agr c:=by
 refine ⟨o.ok,o.seen,?_⟩
 rcases o.st with ⟨h1,h2,h3⟩|⟨h1,h2,h3⟩
 ·exact .inl ⟨h1,by rw [List.take_append_of_le_length h3];exact h2,by rw [List.length_append];omega⟩
 ·refine .inr ⟨h1,h2,fun n y z hy hz he=> ?_⟩
  rw [List.getElem?_append] at hz
  split at hz
  ·rename_i hn
   rw [List.take_append_of_le_length (by omega)];exact h3 n y z hy hz he
  ·have:n-H.length=0:=by
    have:=(List.getElem?_eq_some_iff.1 hz).1
    simp at this;omega
   rw [this] at hz
   simp at hz
   subst hz;have:=h2 y (List.mem_of_getElem? hy)
   omega
structure aog (E:Int) (H:List Ch) (agr:Int) (c:Kp) (m:Sh) (t:FlT):Prop where
 er:t.er=0
 ep:t.r.ep=E
 ok:xL E H t.seen t.agr t.c
 st:qF c t.c
 ap0:0≤t.r.ap
 apM:t.r.ap≤max (H.length:Int) c.h.length
 yes:t.r.ok=true→t.r.ap=m.sq+m.cs.length∧t.r.ap≤t.c.h.length∧t.agr=E
 no:t.r.ok=false→t.r.ap<m.sq∧t.c=c∧t.agr=agr
 keep:agr=E→t.agr=E∧c.h.length≤t.c.h.length
 go:(agr=E∧m.sq≤c.h.length)∨m.sq=0→t.r.ok=true
theorem sO {E:Int}{H:List Ch}{N:Nw}(oH:HOk H)(hr:runN H=some N)(hep:∀x∈H,x.ep≤E)(hE1:1≤E)(hE2:E≤1048576)(hl:H.length≤4096)
  {seen agr:Int} {c:Kp} (o:xL E H seen agr c) {m:Sh} (hm:ade E H m):aog E H agr c m (bS seen agr c m):=by
 have hv:=hm.valid oH hep hE1 hE2 hl;obtain ⟨m1,n,k,m2,m3,m4,m5,m6⟩:=hm;have hlen:m.cs.length=min k (H.length-n):=by rw [m5,List.length_take,List.length_drop]
 have hs:=o.seen;unfold bS;rw [hv,if_neg (by simp),if_neg (by omega)]
 by_cases h1:(c.h.length:Int)<m.sq
 ·rw [if_pos h1]
  refine ⟨rfl,m1,⟨o.ok,by simp only;omega,o.st⟩,⟨rfl,rfl,rfl,rfl⟩,by simp only;omega,by simp only;omega,fun h=>by simp at h,fun _=>⟨h1,rfl,rfl⟩,fun h=>⟨h,Nat.le_refl _⟩,fun h=>by omega⟩
 rw [if_neg h1]
 by_cases h2:uJ c.h m.sq m.bf=true
 ·rw [h2,if_neg (by simp)]
  simp only
  -- the copy has what the home has up to the message
  have hpre:c.h.take n=H.take n:=by
   by_cases hn:n=0
   ·subst hn;rfl
   ·rw [if_neg hn] at m6
    have hnc:n-1<c.h.length:=by omega
    have hnH:n-1<H.length:=by omega
    have g1:c.h[n-1]? =some c.h[n-1]:=List.getElem?_eq_getElem hnc;have g2:H[n-1]? =some H[n-1]:=List.getElem?_eq_getElem hnH
    rcases o.st with ⟨_,s2,_⟩|⟨_,_,s3⟩
    ·rw [s2,List.take_take,Nat.min_eq_left (by omega)]
    ·unfold uJ at h2
     rw [if_neg (by omega),if_neg (by omega),m2,show ((n:Int)-1).toNat=n-1 from by omega,g1] at h2;simp only [Bool.and_eq_true,decide_eq_true_eq] at h2;have:=s3 (n-1) _ _ g1 g2 (by rw [h2.2,m6,List.getD_eq_getElem?_getD,g2];rfl)
     rwa [show n-1+1=n from by omega] at this
  obtain ⟨c1,hc1⟩:∃c1,c1=(if agr<m.ep then aO c m.sq.toNat else c):=⟨_,rfl⟩;rw [←hc1];have key:kF c1∧c1.h=H.take c1.h.length∧c1.h.length≤H.length∧n≤c1.h.length∧(c1.h.length=n∨c.h=c1.h)∧qF c c1∧(agr=E→c.h.length≤c1.h.length):=by
   rw [hc1]
   rcases o.st with ⟨s1,s2,s3⟩|⟨s1,s2,s3⟩
   ·rw [if_neg (by omega)]
    exact ⟨o.ok,s2,s3,by omega,.inr rfl,⟨rfl,rfl,rfl,rfl⟩,fun _=>Nat.le_refl _⟩
   ·rw [if_pos (by omega)]
    have e:m.sq.toNat=n:=by omega
    have hh:(aO c m.sq.toNat).h=H.take n:=by rw [e];exact hpre
    have hll:(aO c m.sq.toNat).h.length=n:=by rw [hh,List.length_take];omega
    exact ⟨oO o.ok _,by rw [hll,hh],by omega,by omega,.inl hll,⟨rfl,rfl,rfl,rfl⟩,fun h=>by omega⟩
  obtain ⟨k1,k2,k3,k4,k5,k6,k7⟩:=key;have hcs:m.cs=(H.drop n).take m.cs.length:=by
   rw [hlen,m5]
   rcases Nat.le_total k (H.length-n) with h|h
   ·rw [Nat.min_eq_left h]
   ·rw [Nat.min_eq_right h,List.take_of_length_le (by rw [List.length_drop];exact h),List.take_of_length_le (by rw [List.length_drop];exact Nat.le_refl _)]
  have T:=ad4 oH hr (H0:=c.h) m.cs c1 n k1 k2 k3 k4 hcs k5;rw [←m2] at T;obtain ⟨t1,t2,t3,t4,t5⟩:=T;have tl:(gK c.h m.cs c1 m.sq).1.h.length=max c1.h.length (n+m.cs.length):=by rw [t2,List.length_take];omega
  have hag:(if agr<m.ep then m.ep else agr)=E:=by
   rcases o.st with ⟨s1,_⟩|⟨s1,_⟩
   ·rw [if_neg (by omega)];exact s1
   ·rw [if_pos (by omega)];exact m1
  refine ⟨rfl,m1,⟨t1,by simp only;omega,.inl ⟨hag,by rw [tl];exact t2,by rw [tl];omega⟩⟩,k6.trans t5,by simp only;omega,by simp only;omega,fun _=>⟨by simp only;omega,by simp only;omega,hag⟩,fun h=>by simp at h,fun h=>⟨hag,by have:=k7 h;simp only;omega⟩,fun _=>rfl⟩
 ·rw [Bool.not_eq_true] at h2
  rw [h2,if_pos (by simp)];have hn:n≠0:=by
   intro hn;subst hn;rw [if_pos rfl] at m6;unfold uJ at h2;rw [if_pos ⟨m2,m6⟩] at h2
   cases h2
  have hfi:(c.h.findIdx fun x=>decide (x.ep=(c.h.getD (m.sq-1).toNat ch0).ep))<n:=by
   have e:(m.sq-1).toNat=n-1:=by omega
   have hnc:n-1<c.h.length:=by omega
   have h3:(c.h.findIdx fun x=>decide (x.ep=(c.h.getD (m.sq-1).toNat ch0).ep))≤n-1:=by
    rcases Nat.lt_or_ge (n-1) (c.h.findIdx fun x=>decide (x.ep=(c.h.getD (m.sq-1).toNat ch0).ep)) with hlt|hge
    ·have:=List.not_of_lt_findIdx hlt
     have hz:(c.h.getD (m.sq-1).toNat ch0)=c.h[n-1]:=by rw [e,List.getD_eq_getElem?_getD,List.getElem?_eq_getElem hnc];rfl
     simp only [hz] at this
     simp at this
    ·exact hge
   omega
  refine ⟨rfl,m1,⟨o.ok,by simp only;omega,o.st⟩,⟨rfl,rfl,rfl,rfl⟩,by simp only;omega,by simp only;omega,fun h=>by simp at h,fun _=>⟨by simp only;omega,rfl,rfl⟩,fun h=>⟨h,Nat.le_refl _⟩,fun h=> ?_⟩
  exfalso
  rcases h with ⟨h,hle⟩|h
  ·rcases o.st with ⟨_,s2,s3⟩|⟨s1,_⟩
   ·rw [if_neg hn] at m6
    have hnc:n-1<c.h.length:=by omega
    have hnH:n-1<H.length:=by omega
    have g2:H[n-1]? =some H[n-1]:=List.getElem?_eq_getElem hnH;have g1:c.h[n-1]? =some H[n-1]:=by rw [s2,List.getElem?_take,if_pos hnc];exact g2
    unfold uJ at h2;rw [if_neg (by omega),if_neg (by omega),m2,show ((n:Int)-1).toNat=n-1 from by omega,g1] at h2;obtain ⟨z1,_⟩:=oH.sq (n-1) _ g2;rw [m6,List.getD_eq_getElem?_getD,g2] at h2
    simp [z1] at h2
    omega
   ·omega
  ·omega
structure adf (E:Int) (p:Pg) (agr:Int) (c:Kp):Prop where
 ap0:0≤p.ap
 nx:p.ap≤p.nx
 has:0<p.ap→agr=E∧p.ap≤c.h.length
structure adq (E:Int) (a:Hd) (agr:Int) (c:Kp):Prop where
 ep:a.ep=E
 ap0:0≤a.ap
 apM:a.ap≤4096
 yes:a.ok=true→agr=E∧a.ap≤c.h.length
theorem adf.keep {E:Int}{p:Pg}{agr:Int}{c:Kp}(h:adf E p agr c){ant :Int}{c' :Kp}(k:agr=E→ant =E∧c.h.length≤c'.h.length):adf E p ant c' :=
 ⟨h.ap0,h.nx,fun h0=>by have:=h.has h0;have:=k this.1;omega⟩
theorem adq.keep {E:Int}{a:Hd}{agr:Int}{c:Kp}(h:adq E a agr c){ant :Int}{c' :Kp}(k:agr=E→ant =E∧c.h.length≤c'.h.length):adq E a ant c' :=
 ⟨h.ep,h.ap0,h.apM,fun h0=>by have:=h.yes h0;have:=k this.1;omega⟩
theorem aog.hd {E:Int}{H:List Ch}{agr:Int}{c:Kp}{m:Sh}{t:FlT}(h:aog E H agr c m t)(hl:H.length≤4096)(hc:c.h.length≤4096):adq E t.r t.agr t.c:=
 ⟨h.ep,h.ap0,by have:=h.apM;omega,fun h0=>by have:=h.yes h0;exact ⟨this.2.2,this.2.1⟩⟩
theorem adf.hear {E:Int}{p:Pg}{agr:Int}{c:Kp}(h:adf E p agr c){a:Hd}(k:adq E a agr c):adf E (gZ p a) agr c:=by
 have h1:=h.ap0;have h2:=h.nx;have k1:=k.ap0;unfold gZ
 by_cases hy:a.ok=true
 ·rw [if_pos hy]
  refine ⟨by simp only;omega,by simp only;omega,fun h0=> ?_⟩;have k2:=k.yes hy
  by_cases hp:0<p.ap
  ·have:=h.has hp
   exact ⟨this.1,by simp only;omega⟩
  ·exact ⟨k2.1,by simp only;omega⟩
 ·rw [if_neg hy]
  exact ⟨h1,by simp only;omega,h.has⟩
def mu (E L:Int)(p:Pg)(agr:Int):Int:=if agr=E∧p.ap=L then 0 else 2*(L-p.ap)+(min p.nx L-p.ap)+1
theorem aeo {E:Int}{H:List Ch}{N:Nw}(oH:HOk H)(hr:runN H=some N)(hep:∀x∈H,x.ep≤E)(hE1:1≤E)(hE2:E≤1048576)(hl:H.length≤4096)
  {seen agr:Int} {c:Kp} (o:xL E H seen agr c) (hcl:c.h.length≤4096) {p:Pg} (hp:adf E p agr c) {t:FlT} (ht:t=bS seen agr c (dz E p H)):
  aog E H agr c (dz E p H) t∧adf E (gZ p t.r) t.agr t.c∧t.c.h.length≤4096∧
  (mu E H.length (gZ p t.r) t.agr=0∨mu E H.length (gZ p t.r) t.agr<mu E H.length p agr):=by
 have h1:=hp.ap0;have h2:=hp.nx;have hm:=lM E p H (by omega);have T:=sO oH hr hep hE1 hE2 hl o hm;rw [←ht] at T;have hk:=hp.keep T.keep;have hh:=T.hd hl hcl;have h3:=hk.hear hh;have aw2:p.ap≤H.length:=by
  by_cases h0:0<p.ap
  ·have:=hp.has h0
   rcases o.st with ⟨_,_,s3⟩|⟨s1,_⟩
   ·omega
   ·omega
  ·omega
 have hsq:(dz E p H).sq=min p.nx H.length:=rfl;have hcs:((dz E p H).cs.length:Int)=min 8 (H.length-min p.nx (H.length:Int)):=by
  simp only [dz];rw [List.length_take,List.length_drop]
  omega
 refine ⟨T,h3,?_,?_⟩
 ·rcases T.ok.st with ⟨_,_,s3⟩|⟨s1,_,_⟩
  ·omega
  ·have hn:t.r.ok=false:=by
    cases hy:t.r.ok with
    |false=>rfl
    |true=>have:=(T.yes hy).2.2;omega
   rw [(T.no hn).2.1];exact hcl
 ·cases hy:t.r.ok with
  |true=>
   obtain ⟨y1,y2,y3⟩:=T.yes hy;have e:gZ p t.r={p with ap:=max p.ap t.r.ap,nx:=max p.ap t.r.ap}:=by unfold gZ;rw [if_pos hy]
   have hle:(t.c.h.length:Int)≤H.length:=by
    rcases T.ok.st with ⟨_,_,s3⟩|⟨s1,_,_⟩<;>omega
   rw [e];unfold mu;simp only
   by_cases hd:t.agr=E∧max p.ap t.r.ap=(H.length:Int)
   ·rw [if_pos hd];exact .inl rfl
   ·rw [if_neg hd]
    have hne:max p.ap t.r.ap≠(H.length:Int):=fun h=>hd ⟨y3,h⟩
    right
    rw [if_neg (by omega)]
    omega
  |false=>
   obtain ⟨n1,n2,n3⟩:=T.no hy;have e:gZ p t.r={p with nx:=max (min p.nx t.r.ap) p.ap}:=by unfold gZ;rw [if_neg (by simp [hy])]
   have hlt:p.ap<min p.nx (H.length:Int):=by
    rcases Int.lt_or_le p.ap (min p.nx (H.length:Int)) with h|h
    ·exact h
    ·exfalso
     have he:(dz E p H).sq=p.ap:=by rw [hsq];omega
     by_cases h0:0<p.ap
     ·have:=hp.has h0
      have:=T.go (.inl ⟨this.1,by rw [he];exact this.2⟩);rw [hy] at this;cases this
     ·have:=T.go (.inr (by rw [he];omega))
      rw [hy] at this;cases this
   rw [e,n3];unfold mu;simp only
   by_cases hd:agr=E∧p.ap=(H.length:Int)
   ·omega
   ·rw [if_neg hd,if_neg hd]
    right
    rw [hsq] at n1
    omega
theorem ai4 {E:Int}{H:List Ch}{seen agr:Int}{c:Kp}(o:xL E H seen agr c){p:Pg}(hp:adf E p agr c)(h:mu E H.length p agr≤0):c.h=H:=by
 have h1:=hp.nx;unfold mu at h
 by_cases hd:agr=E∧p.ap=(H.length:Int)
 ·rcases o.st with ⟨_,s2,s3⟩|⟨s1,_,_⟩
  ·by_cases h0:0<p.ap
   ·have:=hp.has h0
    rw [s2,List.take_of_length_le (by omega)]
   ·have:H.length=0:=by have:=hp.ap0;omega
    rw [List.length_eq_zero_iff] at this;subst this;rw [s2,List.take_nil]
  ·omega
 ·rw [if_neg hd] at h
  exfalso
  have aw2:p.ap≤H.length:=by
   by_cases h0:0<p.ap
   ·have:=hp.has h0
    rcases o.st with ⟨_,_,s3⟩|⟨s1,_,_⟩<;>omega
   ·omega
  omega
theorem apy {E:Int}{H:List Ch}{agr:Int}{p:Pg}(h0:0≤p.ap)(hL:p.ap≤H.length):mu E H.length p agr≤3*H.length+1:=by
 unfold mu
 split<;>omega
def e1C:En:=⟨1,0,0,0,1,0,0,0,0⟩
def e2C:En:=⟨2,0,0,0,-1,1,0,20,0⟩
end Go.Proofs.YtodkhcbjpodgeaaGreat
