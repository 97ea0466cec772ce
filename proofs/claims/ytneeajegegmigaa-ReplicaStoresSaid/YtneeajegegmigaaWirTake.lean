/-
  The contract of wire.TakeInt.
-/
import Derived.Test.YtneeajegegmigaaWir
import Derived.Laws.BitsAllLaws
namespace Go.Proofs.Ytneeajegegmigaa
open Go.ChangeShapes Go.WideShapes Go.ChangeAt Go.RowKit

theorem and127 (x : Nat) (h : x < 256) : bits BinOp.and IntKind.u8 (x : Int) 127 = ((x % 128 : Nat) : Int) := by
  have : ∀ y : Fin 256, bits BinOp.and IntKind.u8 ((y.val : Nat) : Int) 127 = ((y.val % 128 : Nat) : Int) := by decide +kernel
  exact this ⟨x, h⟩

theorem pow7 (k : Nat) : (2 : Nat) ^ (7 * k) = 128 ^ k := by rw [Nat.pow_mul]

/-- A group of seven bits laid behind the others. -/
theorem or_group (p : List UInt8) (x : UInt8) (k : Nat) (hp : p.length = k) (hk : k < 10) :
    bits BinOp.or IntKind.u64 ((valN p % 18446744073709551616 : Nat) : Int) (IntKind.u64.wrap (IntKind.u64.wrap (bits BinOp.and IntKind.u8 (x.toNat : Int) 127) * 2 ^ (7 * k))) = ((valN (p ++ [x]) % 18446744073709551616 : Nat) : Int) := by
  have hx : x.toNat < 256 := x.toNat_lt
  rw [and127 _ hx, IntKind.wrap_u64, IntKind.wrap_u64]
  have hv := valN_lt p
  rw [hp] at hv
  have hle : 128 ^ k ≤ 128 ^ 9 := Nat.pow_le_pow_right (by omega) (by omega)
  have hU : valN p % 18446744073709551616 = valN p := Nat.mod_eq_of_lt (by omega)
  have e1 : ((x.toNat % 128 : Nat) : Int) % 18446744073709551616 = ((x.toNat % 128 : Nat) : Int) := by omega
  rw [e1, hU]
  have e2 : ((x.toNat % 128 : Nat) : Int) * 2 ^ (7 * k) = ((x.toNat % 128 * 128 ^ k : Nat) : Int) := by
    rw [← pow7 k]
    push_cast
    rfl
  rw [e2]
  obtain ⟨q, hq⟩ : ∃ q, 18446744073709551616 = 128 ^ k * q := ⟨2 * 128 ^ (9 - k), by
    rw [show 18446744073709551616 = 2 * 128 ^ 9 from by decide, show 128 ^ 9 = 128 ^ k * 128 ^ (9 - k) from by rw [← Nat.pow_add]; congr 1; omega]
    rw [Nat.mul_left_comm]⟩
  have e3 : ((x.toNat % 128 * 128 ^ k : Nat) : Int) % 18446744073709551616 = ((128 ^ k * (x.toNat % 128 % q) : Nat) : Int) := by
    have : x.toNat % 128 * 128 ^ k % 18446744073709551616 = 128 ^ k * (x.toNat % 128 % q) := by
      rw [hq, Nat.mul_comm, Nat.mul_mod_mul_left]
    omega
  rw [e3]
  have hq0 : 0 < q := by
    rcases Nat.eq_zero_or_pos q with h0 | h0
    · rw [h0] at hq; omega
    · exact h0
  have hz : x.toNat % 128 % q < q := Nat.mod_lt _ hq0
  have hb : 128 ^ k * (x.toNat % 128 % q) + 128 ^ k ≤ 18446744073709551616 := by
    rw [hq, ← Nat.mul_succ]
    exact Nat.mul_le_mul_left _ hz
  rw [u64_or_nat _ _ (by omega) (by omega)]
  have hor : valN p ||| 128 ^ k * (x.toNat % 128 % q) = 128 ^ k * (x.toNat % 128 % q) + valN p := by
    rw [Nat.or_comm, ← pow7 k]
    rw [← pow7 k] at hv
    exact (Nat.two_pow_add_eq_or_of_lt hv _).symm
  rw [hor]
  congr 1
  rw [valN_append, hp]
  simp only [valN]
  rw [show x.toNat % 128 + 128 * 0 = x.toNat % 128 from by omega]
  have e4 : 128 ^ k * (x.toNat % 128) % 18446744073709551616 = 128 ^ k * (x.toNat % 128 % q) := by rw [hq, Nat.mul_mod_mul_left]
  generalize 128 ^ k * (x.toNat % 128 % q) = G at *
  generalize 128 ^ k * (x.toNat % 128) = H at *
  omega

theorem valN_small (p : List UInt8) (x : UInt8) (k : Nat) (hp : p.length = k) (hk : k < 10) (hx : x.toNat < 128) (h9 : k = 9 → x.toNat ≤ 1) : valN (p ++ [x]) < 18446744073709551616 := by
  have hv := valN_lt p
  rw [valN_append, hp]
  rw [hp] at hv
  simp only [valN]
  rw [show x.toNat % 128 + 128 * 0 = x.toNat from by omega]
  by_cases h : k = 9
  · subst h
    have h1 := h9 rfl
    have : 128 ^ 9 * x.toNat ≤ 128 ^ 9 * 1 := Nat.mul_le_mul_left _ h1
    omega
  · have hle : 128 ^ k ≤ 128 ^ 8 := Nat.pow_le_pow_right (by omega) (by omega)
    have : 128 ^ k * x.toNat ≤ 128 ^ 8 * 127 := Nat.mul_le_mul hle (by omega)
    omega

/-- TakeInt's three results. -/
abbrev takV (t : Tak) : Value := .tuple #[.int .i64 t.n, .int .i64 (t.k : Int), .int .i64 t.e]

end Go.Proofs.Ytneeajegegmigaa
