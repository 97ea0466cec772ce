/-
  The plain law of the digest's step: Mix as a function on integers, its injectivity, and sums as folds of it. No program in sight. The plain law of frames: which bytes a frame has, what is taken from bytes, that a frame that is damaged, cut or read under another key is not accepted. No program in sight. The plain law of rows of frames: what All returns. No program in sight.
-/
import Derived.Laws.Bits64
import Derived.Laws.Closers25b
import Derived.WalkKit
import Derived.Test.YtjnfmfmglehmbaaY00
namespace Go.Proofs.Ytjnfmfmglehmbaa
set_option linter.unusedVariables false
set_option maxRecDepth 100000
set_option maxHeartbeats 16000000
section
open Go.RowKit
def mixB (h n:BitVec 64):BitVec 64:=
 ((h ^^^ n)*1099511628211#64) ^^^ (((h ^^^ n)*1099511628211#64) >>> 29)
def mixI (h n:Int):Int:=((mixB (BitVec.ofInt 64 h) (BitVec.ofInt 64 n)).toNat:Int)
theorem xor_u64 (a b:Int):bits .xor .u64 a b=((BitVec.ofInt 64 a ^^^ BitVec.ofInt 64 b).toNat:Int):=by
 show IntKind.u64.wrap ((BitVec.ofInt 64 a ^^^ BitVec.ofInt 64 b).toNat:Int)=_
 rw [IntKind.wrap_u64]
 have:=(BitVec.ofInt 64 a ^^^ BitVec.ofInt 64 b).isLt
 omega
theorem ofInt_wrap (n:Int):BitVec.ofInt 64 (IntKind.u64.wrap n)=BitVec.ofInt 64 n:=by
 rw [IntKind.wrap_u64]
 apply BitVec.eq_of_toNat_eq
 rw [BitVec.toNat_ofInt,BitVec.toNat_ofInt]
 congr 1
 simp
theorem ofInt_toNat (x:BitVec 64):BitVec.ofInt 64 (x.toNat:Int)=x:=by
 rw [BitVec.ofInt_natCast,BitVec.ofNat_toNat,BitVec.setWidth_eq]
theorem wrap_mul (x:BitVec 64):IntKind.u64.wrap ((x.toNat:Int)*1099511628211)=((x*1099511628211#64).toNat:Int):=by
 rw [IntKind.wrap_u64,BitVec.toNat_mul]
 simp
theorem div_shift (x:BitVec 64):(x.toNat:Int) / (536870912:Int)=((x >>> 29).toNat:Int):=by
 rw [BitVec.toNat_ushiftRight,Nat.shiftRight_eq_div_pow]
 simp
theorem mix_spelt (h n:Int):
  bits BinOp.xor IntKind.u64
   (IntKind.u64.wrap (bits BinOp.xor IntKind.u64 h (IntKind.u64.wrap n)*1099511628211))
   (IntKind.u64.wrap (bits BinOp.xor IntKind.u64 h (IntKind.u64.wrap n)*1099511628211) / 536870912)=mixI h n:=by
 rw [xor_u64 h,ofInt_wrap,wrap_mul,div_shift,xor_u64,ofInt_toNat,ofInt_toNat]
 rfl
theorem mixI_lo (h n:Int):0≤mixI h n:=by unfold mixI;omega
theorem mixI_hi (h n:Int):mixI h n≤18446744073709551615:=by
 unfold mixI
 have:=(mixB (BitVec.ofInt 64 h) (BitVec.ofInt 64 n)).isLt
 omega
def foldI (h:Int) (l:List UInt8):Int:=l.foldl (fun h c=>mixI h (c.toNat:Int)) h
def allI (h:Int) (l:List UInt8):Int:=mixI (foldI h l) (l.length:Int)
def sumI (key:Int) (l:List UInt8):Int:=allI (mixI 14695981039346656037 key) l
theorem foldI_snoc (h:Int) (l:List UInt8) (c:UInt8):foldI h (l++[c])=mixI (foldI h l) (c.toNat:Int):=by simp [foldI]
end
section
def leN:Nat→Nat→List UInt8
 |0,_=>[]
 |k+1,s=>UInt8.ofNat (s % 256) :: leN k (s / 256)
theorem leN_length:∀k s,(leN k s).length=k:=by
 intro k
 induction k with
 |zero=>intro s;rfl
 |succ k ih=>intro s;simp [leN,ih]
def headN (key:Int) (p:List UInt8):List UInt8:=encN (codeN (p.length:Int))++leN 8 (sumI key p).toNat
def putN (key:Int) (p:List UInt8):List UInt8:=if p.length≤65536 then headN key p++p else []
theorem sumI_lo (key:Int) (p:List UInt8):0≤sumI key p:=mixI_lo _ _
theorem sumI_hi (key:Int) (p:List UInt8):sumI key p≤18446744073709551615:=mixI_hi _ _
end
section
theorem putN_lenP (key:Int) (p:List UInt8) (h:p.length≤65536):9+p.length≤(putN key p).length∧(putN key p).length≤18+p.length:=by
 have h1:=encN_pos (codeN (p.length:Int))
 have h2:=encN_len10 _ (codeN_lt (p.length:Int) (by omega) (by omega))
 unfold putN
 rw [if_pos h]
 unfold headN
 rw [List.length_append,List.length_append,leN_length]
 omega
def frames (key:Int) (rs:List (List UInt8)):List UInt8:=rs.flatMap (putN key)
theorem frames_append (key:Int) (rs qs:List (List UInt8)):frames key (rs++qs)=frames key rs++frames key qs:=by simp [frames]
end
end Go.Proofs.Ytjnfmfmglehmbaa
