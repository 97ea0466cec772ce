/-
  The contract of the reference's TakeInt.
-/
import Derived.Test.YtneeajegegmigaaWirTake
import Derived.Test.YtneeajegegmigaaWirRef
namespace Go.Proofs.Ytneeajegegmigaa
open Go.ChangeShapes Go.WideShapes Go.ChangeAt Go.RowKit

theorem or_group2 (p : List UInt8) (x : UInt8) (k : Nat) (hp : p.length = k) (hk : k < 10) (y : Int) (hy : y = ((x.toNat % 128 : Nat) : Int)) :
    bits BinOp.or IntKind.u64 ((valN p % 18446744073709551616 : Nat) : Int) (IntKind.u64.wrap (y * 2 ^ (7 * k))) = ((valN (p ++ [x]) % 18446744073709551616 : Nat) : Int) := by
  have h := or_group p x k hp hk
  rw [and127 _ x.toNat_lt] at h
  have e : IntKind.u64.wrap ((x.toNat % 128 : Nat) : Int) = ((x.toNat % 128 : Nat) : Int) := by
    rw [IntKind.wrap_u64]
    omega
  rw [e] at h
  rw [hy]
  exact h

end Go.Proofs.Ytneeajegegmigaa
