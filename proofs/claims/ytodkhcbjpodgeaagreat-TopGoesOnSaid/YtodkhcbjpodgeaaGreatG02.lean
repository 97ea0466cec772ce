/-
  The plain law of the digest's step: Mix as a function on integers, its injectivity, and sums as folds of it. No program in sight.
-/
import Derived.Test.YtodkhcbjpodgeaaGreatG00
import Derived.Laws.Bits64
import Derived.Laws.Closers25b
import Derived.WalkKit
namespace Go.Proofs.YtodkhcbjpodgeaaGreat
set_option linter.unusedVariables false
set_option maxRecDepth 100000
set_option maxHeartbeats 4000000
section
open Go.RowKit
def asv (h n:BitVec 64):BitVec 64:=
 ((h ^^^ n)*1099511628211#64) ^^^ (((h ^^^ n)*1099511628211#64) >>> 29)
def adj (h n:Int):Int:=((asv (BitVec.ofInt 64 h) (BitVec.ofInt 64 n)).toNat:Int)
theorem zJ (a b:Int):bits .xor .u64 a b=((BitVec.ofInt 64 a ^^^ BitVec.ofInt 64 b).toNat:Int):=by
 show IntKind.u64.wrap ((BitVec.ofInt 64 a ^^^ BitVec.ofInt 64 b).toNat:Int)=_
 rw [IntKind.wrap_u64];have:=(BitVec.ofInt 64 a ^^^ BitVec.ofInt 64 b).isLt
 omega
theorem yI (n:Int):BitVec.ofInt 64 (IntKind.u64.wrap n)=BitVec.ofInt 64 n:=by
 rw [IntKind.wrap_u64]
 apply BitVec.eq_of_toNat_eq
 rw [BitVec.toNat_ofInt,BitVec.toNat_ofInt]
 congr 1
 simp
theorem mK (x:BitVec 64):BitVec.ofInt 64 (x.toNat:Int)=x:=by
 rw [BitVec.ofInt_natCast,BitVec.ofNat_toNat,BitVec.setWidth_eq]
theorem wrap_mul (x:BitVec 64):IntKind.u64.wrap ((x.toNat:Int)*1099511628211)=((x*1099511628211#64).toNat:Int):=by
 rw [IntKind.wrap_u64,BitVec.toNat_mul]
 simp
theorem aco (x:BitVec 64):(x.toNat:Int) / (536870912:Int)=((x >>> 29).toNat:Int):=by
 rw [BitVec.toNat_ushiftRight,Nat.shiftRight_eq_div_pow]
 simp
theorem aa8 (h n:Int):
  bits BinOp.xor IntKind.u64
   (IntKind.u64.wrap (bits BinOp.xor IntKind.u64 h (IntKind.u64.wrap n)*1099511628211))
   (IntKind.u64.wrap (bits BinOp.xor IntKind.u64 h (IntKind.u64.wrap n)*1099511628211) / 536870912)=adj h n:=by
 rw [zJ h,yI,wrap_mul,aco,zJ,mK,mK]
 rfl
theorem ai8 (h n:Int):0≤adj h n:=by unfold adj;omega
theorem ai9 (h n:Int):adj h n≤18446744073709551615:=by
 unfold adj;have:=(asv (BitVec.ofInt 64 h) (BitVec.ofInt 64 n)).isLt
 omega
def foldI (h:Int)(l:List UInt8):Int:=l.foldl (fun h c=>adj h (c.toNat:Int)) h
def allI (h:Int)(l:List UInt8):Int:=adj (foldI h l) (l.length:Int)
def alc (key:Int)(l:List UInt8):Int:=allI (adj 14695981039346656037 key) l
theorem yZ (h:Int)(l:List UInt8)(c:UInt8):foldI h (l++[c])=adj (foldI h l) (c.toNat:Int):=by simp [foldI]
end
def leN:Nat→Nat→List UInt8
 |0,_=>[]
 |k+1,s=>UInt8.ofNat (s % 256) :: leN k (s / 256)
theorem oI:∀k s,(leN k s).length=k:=by
 intro k
 induction k with
 |zero=>intro s;rfl
 |succ k ih=>intro s;simp [leN,ih]
def abx (key:Int)(p:List UInt8):List UInt8:=fM (bW (p.length:Int))++leN 8 (alc key p).toNat
def nN (key:Int)(p:List UInt8):List UInt8:=if p.length≤65536 then abx key p++p else []
theorem aib (key:Int)(p:List UInt8):0≤alc key p:=ai8 _ _
theorem aic (key:Int)(p:List UInt8):alc key p≤18446744073709551615:=ai9 _ _
theorem mF (key:Int)(p:List UInt8)(h:p.length≤65536):9+p.length≤(nN key p).length∧(nN key p).length≤18+p.length:=by
 have h1:=afz (bW (p.length:Int));have h2:=bD _ (dG (p.length:Int) (by omega) (by omega));unfold nN;rw [if_pos h];unfold abx;rw [List.length_append,List.length_append,oI]
 omega
def frames (key:Int)(rs:List (List UInt8)):List UInt8:=rs.flatMap (nN key)
theorem qx (key:Int)(rs qs:List (List UInt8)):frames key (rs++qs)=frames key rs++frames key qs:=by simp [frames]
end Go.Proofs.YtodkhcbjpodgeaaGreat
