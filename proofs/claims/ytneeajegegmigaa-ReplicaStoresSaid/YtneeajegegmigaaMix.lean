/-
  The plain law of the digest's step: Mix as a function on integers, its injectivity, and sums as folds of it. No program in sight.
-/
import Derived.Laws.Bits64
import Derived.Laws.Closers25b
import Derived.WalkKit
namespace Go.Proofs.Ytneeajegegmigaa
open Go.RowKit

/-- The digest's step, on bit vectors. -/
def mixB (h n : BitVec 64) : BitVec 64 :=
  ((h ^^^ n) * 1099511628211#64) ^^^ (((h ^^^ n) * 1099511628211#64) >>> 29)

/-- The digest's step, on integers. -/
def mixI (h n : Int) : Int := ((mixB (BitVec.ofInt 64 h) (BitVec.ofInt 64 n)).toNat : Int)

theorem xor_u64 (a b : Int) : bits .xor .u64 a b = ((BitVec.ofInt 64 a ^^^ BitVec.ofInt 64 b).toNat : Int) := by
  show IntKind.u64.wrap ((BitVec.ofInt 64 a ^^^ BitVec.ofInt 64 b).toNat : Int) = _
  rw [IntKind.wrap_u64]
  have := (BitVec.ofInt 64 a ^^^ BitVec.ofInt 64 b).isLt
  omega

theorem ofInt_wrap (n : Int) : BitVec.ofInt 64 (IntKind.u64.wrap n) = BitVec.ofInt 64 n := by
  rw [IntKind.wrap_u64]
  apply BitVec.eq_of_toNat_eq
  rw [BitVec.toNat_ofInt, BitVec.toNat_ofInt]
  congr 1
  simp

theorem ofInt_toNat (x : BitVec 64) : BitVec.ofInt 64 (x.toNat : Int) = x := by
  rw [BitVec.ofInt_natCast, BitVec.ofNat_toNat, BitVec.setWidth_eq]

theorem wrap_mul (x : BitVec 64) : IntKind.u64.wrap ((x.toNat : Int) * 1099511628211) = ((x * 1099511628211#64).toNat : Int) := by
  rw [IntKind.wrap_u64, BitVec.toNat_mul]
  simp

theorem div_shift (x : BitVec 64) : (x.toNat : Int) / (536870912 : Int) = ((x >>> 29).toNat : Int) := by
  rw [BitVec.toNat_ushiftRight, Nat.shiftRight_eq_div_pow]
  simp

/-- What the walk comes to is the step. -/
theorem mix_spelt (h n : Int) :
    bits BinOp.xor IntKind.u64
      (IntKind.u64.wrap (bits BinOp.xor IntKind.u64 h (IntKind.u64.wrap n) * 1099511628211))
      (IntKind.u64.wrap (bits BinOp.xor IntKind.u64 h (IntKind.u64.wrap n) * 1099511628211) / 536870912) = mixI h n := by
  rw [xor_u64 h, ofInt_wrap, wrap_mul, div_shift, xor_u64, ofInt_toNat, ofInt_toNat]
  rfl

theorem mixI_i64 (h n : Int) : mixI h (IntKind.i64.wrap n) = mixI h n := by
  unfold mixI
  have : BitVec.ofInt 64 (IntKind.i64.wrap n) = BitVec.ofInt 64 n := by
    apply BitVec.eq_of_toNat_eq
    rw [BitVec.toNat_ofInt, BitVec.toNat_ofInt, IntKind.wrap_i64]
    omega
  rw [this]

theorem mixI_wrap64 (h n : Int) : mixI h (wrap64 n) = mixI h n := by
  have e : wrap64 n = IntKind.i64.wrap n := by unfold wrap64; rw [IntKind.wrap_i64]
  rw [e, mixI_i64]

theorem mixI_lo (h n : Int) : 0 ≤ mixI h n := by unfold mixI; omega
theorem mixI_hi (h n : Int) : mixI h n ≤ 18446744073709551615 := by
  unfold mixI
  have := (mixB (BitVec.ofInt 64 h) (BitVec.ofInt 64 n)).isLt
  omega

theorem shift_back (y : BitVec 64) :
    (y ^^^ (y >>> 29)) ^^^ ((y ^^^ (y >>> 29)) >>> 29) ^^^ ((y ^^^ (y >>> 29)) >>> 58) = y := by
  have e1 : (y ^^^ (y >>> 29)) >>> 29 = (y >>> 29) ^^^ (y >>> 58) := by
    rw [BitVec.ushiftRight_xor_distrib, ← BitVec.shiftRight_add]
  have e2 : (y ^^^ (y >>> 29)) >>> 58 = (y >>> 58) := by
    rw [BitVec.ushiftRight_xor_distrib, ← BitVec.shiftRight_add]
    have : y >>> (29 + 58) = 0#64 := by
      apply BitVec.ushiftRight_eq_zero
      omega
    rw [this, BitVec.xor_zero]
  rw [e1, e2]
  generalize y >>> 29 = a
  generalize y >>> 58 = b
  rw [BitVec.xor_assoc, BitVec.xor_assoc a b b, BitVec.xor_self, BitVec.xor_zero, BitVec.xor_assoc, BitVec.xor_self, BitVec.xor_zero]

theorem shift_inj {y z : BitVec 64} (h : y ^^^ (y >>> 29) = z ^^^ (z >>> 29)) : y = z := by
  rw [← shift_back y, ← shift_back z, h]

theorem mul_inj {y z : BitVec 64} (h : y * 1099511628211#64 = z * 1099511628211#64) : y = z := by
  have e : ∀ x : BitVec 64, x * 1099511628211#64 * 14886173955864302971#64 = x := by
    intro x
    rw [BitVec.mul_assoc, show (1099511628211#64 * 14886173955864302971#64) = 1#64 from by decide, BitVec.mul_one]
  rw [← e y, ← e z, h]

theorem xor_inj {h n m : BitVec 64} (e : h ^^^ n = h ^^^ m) : n = m := by
  have k : ∀ x : BitVec 64, h ^^^ (h ^^^ x) = x := by
    intro x
    rw [← BitVec.xor_assoc, BitVec.xor_self, BitVec.zero_xor]
  rw [← k n, ← k m, e]

theorem mixB_inj {h n m : BitVec 64} (e : mixB h n = mixB h m) : n = m := xor_inj (mul_inj (shift_inj e))
theorem mixB_inj' {g h n : BitVec 64} (e : mixB g n = mixB h n) : g = h := by
  have e' := mul_inj (shift_inj e)
  rw [BitVec.xor_comm g, BitVec.xor_comm h] at e'
  exact xor_inj e'

theorem ofInt_inj_i64 {n m : Int} (h1 : -9223372036854775808 ≤ n) (h2 : n ≤ 9223372036854775807) (h3 : -9223372036854775808 ≤ m) (h4 : m ≤ 9223372036854775807)
    (e : BitVec.ofInt 64 n = BitVec.ofInt 64 m) : n = m := by
  have := congrArg BitVec.toNat e
  rw [BitVec.toNat_ofInt, BitVec.toNat_ofInt] at this
  omega
theorem ofInt_inj_u64 {n m : Int} (h1 : 0 ≤ n) (h2 : n ≤ 18446744073709551615) (h3 : 0 ≤ m) (h4 : m ≤ 18446744073709551615)
    (e : BitVec.ofInt 64 n = BitVec.ofInt 64 m) : n = m := by
  have := congrArg BitVec.toNat e
  rw [BitVec.toNat_ofInt, BitVec.toNat_ofInt] at this
  omega

theorem mixI_eq {h n h' n' : Int} (e : mixI h n = mixI h' n') : mixB (BitVec.ofInt 64 h) (BitVec.ofInt 64 n) = mixB (BitVec.ofInt 64 h') (BitVec.ofInt 64 n') := by
  apply BitVec.eq_of_toNat_eq
  unfold mixI at e
  omega

/-- The number mixed in is told by the result. -/
theorem mixI_inj {h n m : Int} (h1 : -9223372036854775808 ≤ n) (h2 : n ≤ 9223372036854775807) (h3 : -9223372036854775808 ≤ m) (h4 : m ≤ 9223372036854775807)
    (e : mixI h n = mixI h m) : n = m := ofInt_inj_i64 h1 h2 h3 h4 (mixB_inj (mixI_eq e))
/-- The beginning is told by the result. -/
theorem mixI_inj' {g h n : Int} (h1 : 0 ≤ g) (h2 : g ≤ 18446744073709551615) (h3 : 0 ≤ h) (h4 : h ≤ 18446744073709551615)
    (e : mixI g n = mixI h n) : g = h := ofInt_inj_u64 h1 h2 h3 h4 (mixB_inj' (mixI_eq e))

/-- Numbers mixed in one after the other. -/
def foldI (h : Int) (l : List UInt8) : Int := l.foldl (fun h c => mixI h (c.toNat : Int)) h
/-- The bytes and their number mixed in. -/
def allI (h : Int) (l : List UInt8) : Int := mixI (foldI h l) (l.length : Int)
/-- Sum. -/
def sumI (key : Int) (l : List UInt8) : Int := allI (mixI 14695981039346656037 key) l
/-- Chain. -/
def chainI (key parent : Int) (l : List UInt8) : Int := allI (mixI (mixI 14695981039346656037 key) parent) l

theorem foldI_snoc (h : Int) (l : List UInt8) (c : UInt8) : foldI h (l ++ [c]) = mixI (foldI h l) (c.toNat : Int) := by simp [foldI]
theorem foldI_cons (h : Int) (l : List UInt8) (c : UInt8) : foldI h (c :: l) = foldI (mixI h (c.toNat : Int)) l := rfl
theorem foldI_append (h : Int) (l m : List UInt8) : foldI h (l ++ m) = foldI (foldI h l) m := by simp [foldI]
theorem foldI_bd (h : Int) (h1 : 0 ≤ h) (h2 : h ≤ 18446744073709551615) (l : List UInt8) : 0 ≤ foldI h l ∧ foldI h l ≤ 18446744073709551615 := by
  induction l generalizing h with
  | nil => exact ⟨h1, h2⟩
  | cons c l ih => exact ih _ (mixI_lo _ _) (mixI_hi _ _)
theorem foldI_inj {g h : Int} (h1 : 0 ≤ g) (h2 : g ≤ 18446744073709551615) (h3 : 0 ≤ h) (h4 : h ≤ 18446744073709551615) (l : List UInt8)
    (e : foldI g l = foldI h l) : g = h := by
  induction l generalizing g h with
  | nil => exact e
  | cons c l ih => exact mixI_inj' h1 h2 h3 h4 (ih (mixI_lo _ _) (mixI_hi _ _) (mixI_lo _ _) (mixI_hi _ _) e)
theorem allI_inj {g h : Int} (h1 : 0 ≤ g) (h2 : g ≤ 18446744073709551615) (h3 : 0 ≤ h) (h4 : h ≤ 18446744073709551615) (l : List UInt8)
    (e : allI g l = allI h l) : g = h := by
  have b1 := foldI_bd g h1 h2 l
  have b2 := foldI_bd h h3 h4 l
  exact foldI_inj h1 h2 h3 h4 l (mixI_inj' b1.1 b1.2 b2.1 b2.2 e)
theorem allI_lo (h : Int) (l : List UInt8) : 0 ≤ allI h l := mixI_lo _ _
theorem allI_hi (h : Int) (l : List UInt8) : allI h l ≤ 18446744073709551615 := mixI_hi _ _

/-- One byte is another: another sum. -/
theorem allI_byte {h : Int} (h1 : 0 ≤ h) (h2 : h ≤ 18446744073709551615) (l : List UInt8) (k : Nat) (hk : k < l.length) (c : UInt8)
    (e : allI h l = allI h (l.set k c)) : l[k] = c := by
  have hb := foldI_bd h h1 h2 l
  have hb' := foldI_bd h h1 h2 (l.set k c)
  unfold allI at e
  rw [List.length_set] at e
  have e1 := mixI_inj' hb.1 hb.2 hb'.1 hb'.2 e
  have hl : l = l.take k ++ l[k] :: l.drop (k + 1) := by rw [← List.drop_eq_getElem_cons hk, List.take_append_drop]
  have hs : l.set k c = l.take k ++ c :: l.drop (k + 1) := by rw [List.set_eq_take_append_cons_drop, if_pos hk]
  rw [hs] at e1
  conv at e1 => lhs; rw [hl]
  rw [foldI_append, foldI_append, foldI_cons, foldI_cons] at e1
  have e2 := foldI_inj (mixI_lo _ _) (mixI_hi _ _) (mixI_lo _ _) (mixI_hi _ _) _ e1
  have e3 := mixI_inj (by omega) (by have := l[k].toNat_lt; omega) (by omega) (by have := c.toNat_lt; omega) e2
  exact UInt8.toNat_inj.1 (by omega)

theorem chainI_parents {key p q : Int} (h1 : 0 ≤ p) (h2 : p ≤ 18446744073709551615) (h3 : 0 ≤ q) (h4 : q ≤ 18446744073709551615) (l : List UInt8)
    (e : chainI key p l = chainI key q l) : p = q := by
  have e1 := allI_inj (mixI_lo _ _) (mixI_hi _ _) (mixI_lo _ _) (mixI_hi _ _) l e
  exact ofInt_inj_u64 h1 h2 h3 h4 (mixB_inj (mixI_eq e1))

theorem mixI_00 : mixI 0 0 = 0 := by decide +kernel
theorem mixI_55 : mixI 5 5 = 0 := by decide +kernel
theorem mixI_01 : (mixI 0 1 != 0) = true := by decide +kernel
theorem sumI_01 : (sumI 0 [] != sumI 1 []) = true := by decide +kernel

theorem sumI_keys {key other : Int} (h1 : -9223372036854775808 ≤ key) (h2 : key ≤ 9223372036854775807) (h3 : -9223372036854775808 ≤ other) (h4 : other ≤ 9223372036854775807) (l : List UInt8)
    (e : sumI key l = sumI other l) : key = other :=
  mixI_inj h1 h2 h3 h4 (allI_inj (mixI_lo _ _) (mixI_hi _ _) (mixI_lo _ _) (mixI_hi _ _) l e)

end Go.Proofs.Ytneeajegegmigaa
