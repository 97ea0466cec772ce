/-
  The contract of frame.Take.
-/
import Derived.Test.YtneeajegegmigaaFrm
namespace Go.Proofs.Ytneeajegegmigaa
open Go.ChangeShapes Go.WideShapes Go.ChangeAt Go.RowKit

/-- What Take returns. -/
def TakeTo (w : World) (f : Frm) (e : Ending) (w' : World) : Prop :=
  ∃ A c, e = .returned (.tuple #[.slice A f.p.length c, .int .i64 (f.k : Int), .int .i64 f.e]) ∧ Own w' (fun i => w.heap.size ≤ i) 5 (.slice A f.p.length c) (f.p.map bv) ∧ Fr No w w'

theorem TakeTo.err (w : World) (x : Int) : TakeTo w (frmE x) (.returned (.tuple #[.slice none 0 0, .int .i64 0, .int .i64 x])) w :=
  ⟨none, 0, rfl, Own.nil _ _ _, Fr.refl _ _⟩

theorem or_byte (q : List UInt8) (x : UInt8) (k : Nat) (hq : q.length = k) (hk : k < 8) :
    bits BinOp.or IntKind.u64 ((unleN q : Nat) : Int) (IntKind.u64.wrap ((x.toNat : Int) * 2 ^ (8 * k))) = ((unleN (q ++ [x]) : Nat) : Int) := by
  have hx := x.toNat_lt
  have hv := unleN_lt q
  rw [hq] at hv
  have h256 : (2 : Nat) ^ (8 * k) = 256 ^ k := by rw [Nat.pow_mul]
  have hle : 256 ^ k ≤ 256 ^ 7 := Nat.pow_le_pow_right (by omega) (by omega)
  have hle2 : 256 ^ k * x.toNat ≤ 256 ^ 7 * 255 := Nat.mul_le_mul hle (by omega)
  have e2 : (x.toNat : Int) * 2 ^ (8 * k) = ((256 ^ k * x.toNat : Nat) : Int) := by
    rw [← h256]
    push_cast
    rw [Int.mul_comm]
  rw [e2, IntKind.wrap_u64]
  have e3 : ((256 ^ k * x.toNat : Nat) : Int) % 18446744073709551616 = ((256 ^ k * x.toNat : Nat) : Int) := by omega
  rw [e3, u64_or_nat _ _ (by omega) (by omega)]
  congr 1
  rw [Nat.or_comm, ← h256]
  rw [← h256] at hv
  rw [← Nat.two_pow_add_eq_or_of_lt hv, unleN_append, hq]
  simp only [unleN]
  rw [h256, show x.toNat + 256 * 0 = x.toNat from by omega]
  omega

end Go.Proofs.Ytneeajegegmigaa
