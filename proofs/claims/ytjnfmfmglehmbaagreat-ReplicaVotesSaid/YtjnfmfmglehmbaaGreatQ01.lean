/-
  The plain law of the digest's step: Mix as a function on integers, its injectivity, and sums as folds of it. No program in sight.
-/
import Derived.Test.YtjnfmfmglehmbaaGreatQ00
import Derived.Laws.Bits64
import Derived.Laws.Closers25b
import Derived.WalkKit
namespace Go.Proofs.YtjnfmfmglehmbaaGreat
set_option linter.unusedVariables false
set_option maxRecDepth 100000
set_option maxHeartbeats 4000000
section
open Go.RowKit
def apk (h n:BitVec 64):BitVec 64:=
 ((h ^^^ n)*1099511628211#64) ^^^ (((h ^^^ n)*1099511628211#64) >>> 29)
def adl (h n:Int):Int:=((apk (BitVec.ofInt 64 h) (BitVec.ofInt 64 n)).toNat:Int)
theorem abh (a b:Int):bits .xor .u64 a b=((BitVec.ofInt 64 a ^^^ BitVec.ofInt 64 b).toNat:Int):=by
 show IntKind.u64.wrap ((BitVec.ofInt 64 a ^^^ BitVec.ofInt 64 b).toNat:Int)=_
 rw [IntKind.wrap_u64];have:=(BitVec.ofInt 64 a ^^^ BitVec.ofInt 64 b).isLt
 omega
theorem aah (n:Int):BitVec.ofInt 64 (IntKind.u64.wrap n)=BitVec.ofInt 64 n:=by
 rw [IntKind.wrap_u64]
 apply BitVec.eq_of_toNat_eq
 rw [BitVec.toNat_ofInt,BitVec.toNat_ofInt]
 congr 1
 simp
theorem qw (x:BitVec 64):BitVec.ofInt 64 (x.toNat:Int)=x:=by
 rw [BitVec.ofInt_natCast,BitVec.ofNat_toNat,BitVec.setWidth_eq]
theorem wrap_mul (x:BitVec 64):IntKind.u64.wrap ((x.toNat:Int)*1099511628211)=((x*1099511628211#64).toNat:Int):=by
 rw [IntKind.wrap_u64,BitVec.toNat_mul]
 simp
theorem aeb (x:BitVec 64):(x.toNat:Int) / (536870912:Int)=((x >>> 29).toNat:Int):=by
 rw [BitVec.toNat_ushiftRight,Nat.shiftRight_eq_div_pow]
 simp
theorem vV (h n:Int):
  bits BinOp.xor IntKind.u64
   (IntKind.u64.wrap (bits BinOp.xor IntKind.u64 h (IntKind.u64.wrap n)*1099511628211))
   (IntKind.u64.wrap (bits BinOp.xor IntKind.u64 h (IntKind.u64.wrap n)*1099511628211) / 536870912)=adl h n:=by
 rw [abh h,aah,wrap_mul,aeb,abh,qw,qw]
 rfl
theorem ais (h n:Int):0≤adl h n:=by unfold adl;omega
theorem ait (h n:Int):adl h n≤18446744073709551615:=by
 unfold adl;have:=(apk (BitVec.ofInt 64 h) (BitVec.ofInt 64 n)).isLt
 omega
def foldI (h:Int)(l:List UInt8):Int:=l.foldl (fun h c=>adl h (c.toNat:Int)) h
def allI (h:Int)(l:List UInt8):Int:=adl (foldI h l) (l.length:Int)
def wM (key:Int)(l:List UInt8):Int:=allI (adl 14695981039346656037 key) l
theorem tu (h:Int)(l:List UInt8)(c:UInt8):foldI h (l++[c])=adl (foldI h l) (c.toNat:Int):=by simp [foldI]
end
def leN:Nat→Nat→List UInt8
 |0,_=>[]
 |k+1,s=>UInt8.ofNat (s % 256) :: leN k (s / 256)
def fu:List UInt8→Nat
 |[]=>0
 |x :: l=>x.toNat+256*fu l
theorem cK:∀k s,(leN k s).length=k:=by
 intro k
 induction k with
 |zero=>intro s;rfl
 |succ k ih=>intro s;simp [leN,ih]
theorem uV:∀k s,fu (leN k s)=s % 256 ^ k:=by
 intro k
 induction k with
 |zero=>intro s;simp [leN,fu,Nat.mod_one]
 |succ k ih=>
  intro s;simp only [leN,fu,ih,UInt8.toNat_ofNat'];have e:s % 256 ^ (k+1)=s % 256+256*(s / 256 % 256 ^ k):=by rw [Nat.pow_succ,Nat.mul_comm,Nat.mod_mul]
  rw [e]
  omega
theorem yH (l:List UInt8):fu l<256 ^ l.length:=by
 induction l with
 |nil=>simp [fu]
 |cons x l ih=>
  have:=x.toNat_lt;simp only [fu,List.length_cons,Nat.pow_succ]
  omega
theorem abl:∀(l m:List UInt8),l.length=m.length→fu l=fu m→l=m:=by
 intro l
 induction l with
 |nil=>intro m h _;exact (List.eq_nil_of_length_eq_zero h.symm).symm
 |cons x l ih=>
  intro m h e
  rcases m with _|⟨y,m⟩
  ·simp at h
  ·simp only [fu] at e
   have hx:=x.toNat_lt;have hy:=y.toNat_lt;have e1:x.toNat=y.toNat:=by omega
   have e2:fu l=fu m:=by omega
   rw [UInt8.toNat_inj.1 e1,ih m (by simpa using h) e2]
theorem uW (l m:List UInt8):fu (l++m)=fu l+256 ^ l.length*fu m:=by
 induction l with
 |nil=>simp [fu]
 |cons x l ih=>
  simp only [List.cons_append,fu,ih,List.length_cons,Nat.pow_succ];rw [Nat.mul_add,Nat.mul_comm (256 ^ l.length) 256,Nat.mul_assoc]
  omega
def qK (key:Int)(p:List UInt8):List UInt8:=bX (aV (p.length:Int))++leN 8 (wM key p).toNat
def eT (key:Int)(p:List UInt8):List UInt8:=if p.length≤65536 then qK key p++p else []
structure Frm where
 p:List UInt8
 k:Nat
 e:Int
def lN (e:Int):Frm:=⟨[],0,e⟩
def aN (key:Int)(l:List UInt8):Frm:=
 if (dw l).e≠0 then lN (dw l).e
 else if (dw l).n<0 then lN 18
 else if 65536<(dw l).n then lN 2
 else if (l.length:Int)-(dw l).k<8+(dw l).n then lN 17
 else if (fu ((l.drop (dw l).k).take 8):Int)≠wM key ((l.drop ((dw l).k+8)).take (dw l).n.toNat) then lN 18
 else ⟨(l.drop ((dw l).k+8)).take (dw l).n.toNat,(dw l).k+8+(dw l).n.toNat,0⟩
theorem pO (key:Int)(p:List UInt8):0≤wM key p:=ais _ _
theorem pQ (key:Int)(p:List UInt8):wM key p≤18446744073709551615:=ait _ _
theorem ae9 (key:Int)(p:List UInt8):(fu (leN 8 (wM key p).toNat):Int)=wM key p:=by
 have h1:=pO key p;have h2:=pQ key p;rw [uV,Nat.mod_eq_of_lt (by omega)]
 omega
theorem abp (key:Int)(n:Nat)(hn:n≤65536)(s p more:List UInt8)(hs:s.length=8)(hp:p.length=n):
  aN key (bX (aV (n:Int))++(s++(p++more)))=if (fu s:Int)=wM key p then ⟨p,(bX (aV (n:Int))).length+8+n,0⟩ else lN 18:=by
 have ht:=oW (n:Int) (by omega) (by omega) (s++(p++more));unfold aN;rw [ht];generalize hE:bX (aV (n:Int))=E;have d1:(E++(s++(p++more))).drop E.length=s++(p++more):=List.drop_left' rfl;have d2:(E++(s++(p++more))).drop (E.length+8)=p++more:=by
  rw [←List.drop_drop,d1,List.drop_left' hs]
 simp only [d1,d2];rw [if_neg (by simp),if_neg (by omega),if_neg (by omega),if_neg (by simp only [List.length_append];omega)];rw [List.take_left' hs,show ((n:Int)).toNat=n from by omega,List.take_left' hp]
 by_cases h:(fu s:Int)=wM key p
 ·rw [if_neg (by simpa using h),if_pos h]
 ·rw [if_pos h,if_neg h]
theorem zQ (key:Int)(p more:List UInt8)(h:p.length≤65536):aN key (eT key p++more)=⟨p,(eT key p).length,0⟩:=by
 unfold eT;rw [if_pos h];unfold qK;rw [List.append_assoc,List.append_assoc,abp key p.length h _ p more (cK _ _) rfl,if_pos (ae9 _ _)]
 congr 1
 simp only [List.length_append,cK]
theorem afd:∀(u f:Nat) (p:List UInt8) (k:Nat),k<(bX u).length→(bX u).length≤f→kJ f p ((bX u).take k)= .short:=by
 intro u
 induction u using Nat.strongRecOn with
 |ind u ih=>
  intro f p k hk hf;obtain ⟨f,rfl⟩:∃f',f=f' +1:=⟨f-1,by omega⟩
  rcases k with _|k
  ·rfl
  ·by_cases h:u<128
   ·rw [nV u h] at hk
    simp at hk
   ·rw [nW u h] at hk hf ⊢
    simp only [List.length_cons] at hk hf;rw [List.take_succ_cons];simp only [kJ,UInt8.toNat_ofNat'];rw [if_neg (by omega)];exact ih (u / 128) (by omega) f _ k (by omega) (by omega)
theorem zR (key:Int)(p:List UInt8)(h:p.length≤65536)(k:Nat)(hk:k<(eT key p).length):aN key ((eT key p).take k)=lN 17:=by
 unfold eT at hk ⊢;rw [if_pos h] at hk ⊢;unfold qK at hk ⊢;have hlen:=aP (aV (p.length:Int)) (bq _ (by omega) (by omega));have hht:=oW (p.length:Int) (by omega) (by omega);simp only [List.length_append,cK] at hk
 by_cases hc:k<(bX (aV (p.length:Int))).length
 ·have e:(bX (aV (p.length:Int))++leN 8 (wM key p).toNat++p).take k=(bX (aV (p.length:Int))).take k:=by
   rw [List.append_assoc,List.take_append_of_le_length (by omega)]
  rw [e];have ht:dw ((bX (aV (p.length:Int))).take k)= .short:=afd _ 10 [] k hc hlen;unfold aN;rw [ht]
  rfl
 ·have e:(bX (aV (p.length:Int))++leN 8 (wM key p).toNat++p).take k=bX (aV (p.length:Int))++(leN 8 (wM key p).toNat++p).take (k-(bX (aV (p.length:Int))).length):=by
   rw [List.append_assoc,List.take_append]
   congr 1
   exact List.take_of_length_le (by omega)
  rw [e];unfold aN;rw [hht];rw [if_neg (by simp),if_neg (by simp only;omega),if_neg (by simp only;omega),if_pos];simp only [List.length_append,List.length_take,cK]
  omega
theorem dX (key:Int)(p:List UInt8)(h:p.length≤65536):9+p.length≤(eT key p).length∧(eT key p).length≤18+p.length:=by
 have h1:=agn (aV (p.length:Int));have h2:=aP _ (bq (p.length:Int) (by omega) (by omega));unfold eT;rw [if_pos h];unfold qK;rw [List.length_append,List.length_append,cK]
 omega
theorem af5 (s:List UInt8)(hs:s.length=8):leN 8 (fu s)=s:=by
 have h1:=yH s;rw [hs] at h1;refine abl _ _ (by rw [cK,hs]) ?_;rw [uV,Nat.mod_eq_of_lt h1]
theorem pK (key:Int)(l:List UInt8)(h:(aN key l).e=0):
  (aN key l).p.length≤65536∧(aN key l).k=(eT key (aN key l).p).length∧(aN key l).k≤l.length∧l.take (aN key l).k=eT key (aN key l).p:=by
 unfold aN at h ⊢
 by_cases h1:(dw l).e=0
 ·have c1:¬(dw l).e≠0:=fun hn=>hn h1
  rw [if_neg c1] at h ⊢
  by_cases h2:(dw l).n<0
  ·rw [if_pos h2] at h;simp [lN] at h
  ·rw [if_neg h2] at h ⊢
   by_cases h3:65536<(dw l).n
   ·rw [if_pos h3] at h;simp [lN] at h
   ·rw [if_neg h3] at h ⊢
    by_cases h4:(l.length:Int)-(dw l).k<8+(dw l).n
    ·rw [if_pos h4] at h;simp [lN] at h
    ·rw [if_neg h4] at h ⊢
     by_cases h5:(fu ((l.drop (dw l).k).take 8):Int)≠wM key ((l.drop ((dw l).k+8)).take (dw l).n.toNat)
     ·rw [if_pos h5] at h;simp [lN] at h
     ·rw [if_neg h5] at h ⊢
      simp only [Decidable.not_not] at h5;obtain ⟨n,g1,g2,g3,g4,g5,g6⟩:=tO l h1;rw [g3] at h2 h3 h4 h5 ⊢;rw [g4] at h4 h5 ⊢;obtain ⟨m,rfl⟩:∃m:Nat,n=(m:Int):=⟨n.toNat,by omega⟩;simp only [Int.toNat_natCast] at h5 ⊢;generalize hen:bX (aV (m:Int))=en at*;have hpl:((l.drop (en.length+8)).take m).length=m:=by rw [List.length_take,List.length_drop];omega
      have h8:((l.drop en.length).take 8).length=8:=by rw [List.length_take,List.length_drop];omega
      have hput:eT key ((l.drop (en.length+8)).take m)=l.take (en.length+8+m):=by
       unfold eT qK;rw [hpl,if_pos (by omega),hen,←h5,Int.toNat_natCast,af5 _ h8];rw [←g6,List.length_take,Nat.min_eq_left g5];rw [List.take_add,List.take_add]
      refine ⟨by rw [hpl];omega,?_,by omega,hput.symm⟩;rw [hput,List.length_take]
      omega
 ·rw [if_pos h1] at h
  exact absurd h h1
structure apg where
 r:List (List UInt8)
 k:Nat
def rR (key:Int):Nat→List UInt8→Nat→List (List UInt8)→apg
 |0,_,p,acc=>⟨acc,p⟩
 |f+1,l,p,acc=>if p<l.length then (if (aN key (l.drop p)).e=0 then rR key f l (p+(aN key (l.drop p)).k) (acc++[(aN key (l.drop p)).p]) else ⟨acc,p⟩) else ⟨acc,p⟩
def allT (key:Int)(l:List UInt8):apg:=rR key (l.length+1) l 0 []
theorem oV (key:Int)(l:List UInt8)(h:(aN key l).e=0):9≤(aN key l).k∧(aN key l).k≤l.length:=by
 obtain ⟨h1,h2,h3,_⟩:=pK key l h;have:=dX key _ h1
 omega
def frames (key:Int)(rs:List (List UInt8)):List UInt8:=rs.flatMap (eT key)
theorem eG (key:Int)(r:List UInt8)(rs:List (List UInt8)):frames key (r :: rs)=eT key r++frames key rs:=by simp [frames]
theorem uI (key:Int)(rs qs:List (List UInt8)):frames key (rs++qs)=frames key rs++frames key qs:=by simp [frames]
end Go.Proofs.YtjnfmfmglehmbaaGreat
