/-
  Several texts in one: Mix, FrmP, FrmAP.
-/
import Derived.Laws.Bits64
import Derived.Laws.Closers25b
import Derived.WalkKit
import Derived.Test.YtokblidfekbeeaaZ00
/- The plain law of the digest's step: Mix as a function on integers, its injectivity, and sums as folds of it. No program in sight. -/
namespace Go.Proofs.Ytokblidfekbeeaa
open Go.RowKit

/-- The digest's step, on bit vectors. -/
def mixB (h n : BitVec 64) : BitVec 64 :=
  ((h ^^^ n) * 1099511628211#64) ^^^ (((h ^^^ n) * 1099511628211#64) >>> 29)

/-- The digest's step, on integers. -/
def mixI (h n : Int) : Int := ((mixB (BitVec.ofInt 64 h) (BitVec.ofInt 64 n)).toNat : Int)

theorem xor_u64 (a b : Int) : bits .xor .u64 a b = ((BitVec.ofInt 64 a ^^^ BitVec.ofInt 64 b).toNat : Int) := by
  show IntKind.u64.wrap ((BitVec.ofInt 64 a ^^^ BitVec.ofInt 64 b).toNat : Int) = _
  rw [IntKind.wrap_u64]
  have := (BitVec.ofInt 64 a ^^^ BitVec.ofInt 64 b).isLt
  omega

theorem ofInt_wrap (n : Int) : BitVec.ofInt 64 (IntKind.u64.wrap n) = BitVec.ofInt 64 n := by
  rw [IntKind.wrap_u64]
  apply BitVec.eq_of_toNat_eq
  rw [BitVec.toNat_ofInt, BitVec.toNat_ofInt]
  congr 1
  simp

theorem ofInt_toNat (x : BitVec 64) : BitVec.ofInt 64 (x.toNat : Int) = x := by
  rw [BitVec.ofInt_natCast, BitVec.ofNat_toNat, BitVec.setWidth_eq]

theorem wrap_mul (x : BitVec 64) : IntKind.u64.wrap ((x.toNat : Int) * 1099511628211) = ((x * 1099511628211#64).toNat : Int) := by
  rw [IntKind.wrap_u64, BitVec.toNat_mul]
  simp

theorem div_shift (x : BitVec 64) : (x.toNat : Int) / (536870912 : Int) = ((x >>> 29).toNat : Int) := by
  rw [BitVec.toNat_ushiftRight, Nat.shiftRight_eq_div_pow]
  simp

/-- What the walk comes to is the step. -/
theorem mix_spelt (h n : Int) :
    bits BinOp.xor IntKind.u64
      (IntKind.u64.wrap (bits BinOp.xor IntKind.u64 h (IntKind.u64.wrap n) * 1099511628211))
      (IntKind.u64.wrap (bits BinOp.xor IntKind.u64 h (IntKind.u64.wrap n) * 1099511628211) / 536870912) = mixI h n := by
  rw [xor_u64 h, ofInt_wrap, wrap_mul, div_shift, xor_u64, ofInt_toNat, ofInt_toNat]
  rfl

theorem mixI_i64 (h n : Int) : mixI h (IntKind.i64.wrap n) = mixI h n := by
  unfold mixI
  have : BitVec.ofInt 64 (IntKind.i64.wrap n) = BitVec.ofInt 64 n := by
    apply BitVec.eq_of_toNat_eq
    rw [BitVec.toNat_ofInt, BitVec.toNat_ofInt, IntKind.wrap_i64]
    omega
  rw [this]

theorem mixI_wrap64 (h n : Int) : mixI h (wrap64 n) = mixI h n := by
  have e : wrap64 n = IntKind.i64.wrap n := by unfold wrap64; rw [IntKind.wrap_i64]
  rw [e, mixI_i64]

theorem mixI_lo (h n : Int) : 0 ≤ mixI h n := by unfold mixI; omega
theorem mixI_hi (h n : Int) : mixI h n ≤ 18446744073709551615 := by
  unfold mixI
  have := (mixB (BitVec.ofInt 64 h) (BitVec.ofInt 64 n)).isLt
  omega

theorem shift_back (y : BitVec 64) :
    (y ^^^ (y >>> 29)) ^^^ ((y ^^^ (y >>> 29)) >>> 29) ^^^ ((y ^^^ (y >>> 29)) >>> 58) = y := by
  have e1 : (y ^^^ (y >>> 29)) >>> 29 = (y >>> 29) ^^^ (y >>> 58) := by
    rw [BitVec.ushiftRight_xor_distrib, ← BitVec.shiftRight_add]
  have e2 : (y ^^^ (y >>> 29)) >>> 58 = (y >>> 58) := by
    rw [BitVec.ushiftRight_xor_distrib, ← BitVec.shiftRight_add]
    have : y >>> (29 + 58) = 0#64 := by
      apply BitVec.ushiftRight_eq_zero
      omega
    rw [this, BitVec.xor_zero]
  rw [e1, e2]
  generalize y >>> 29 = a
  generalize y >>> 58 = b
  rw [BitVec.xor_assoc, BitVec.xor_assoc a b b, BitVec.xor_self, BitVec.xor_zero, BitVec.xor_assoc, BitVec.xor_self, BitVec.xor_zero]

theorem shift_inj {y z : BitVec 64} (h : y ^^^ (y >>> 29) = z ^^^ (z >>> 29)) : y = z := by
  rw [← shift_back y, ← shift_back z, h]

theorem mul_inj {y z : BitVec 64} (h : y * 1099511628211#64 = z * 1099511628211#64) : y = z := by
  have e : ∀ x : BitVec 64, x * 1099511628211#64 * 14886173955864302971#64 = x := by
    intro x
    rw [BitVec.mul_assoc, show (1099511628211#64 * 14886173955864302971#64) = 1#64 from by decide, BitVec.mul_one]
  rw [← e y, ← e z, h]

theorem xor_inj {h n m : BitVec 64} (e : h ^^^ n = h ^^^ m) : n = m := by
  have k : ∀ x : BitVec 64, h ^^^ (h ^^^ x) = x := by
    intro x
    rw [← BitVec.xor_assoc, BitVec.xor_self, BitVec.zero_xor]
  rw [← k n, ← k m, e]

theorem mixB_inj {h n m : BitVec 64} (e : mixB h n = mixB h m) : n = m := xor_inj (mul_inj (shift_inj e))
theorem mixB_inj' {g h n : BitVec 64} (e : mixB g n = mixB h n) : g = h := by
  have e' := mul_inj (shift_inj e)
  rw [BitVec.xor_comm g, BitVec.xor_comm h] at e'
  exact xor_inj e'

theorem ofInt_inj_i64 {n m : Int} (h1 : -9223372036854775808 ≤ n) (h2 : n ≤ 9223372036854775807) (h3 : -9223372036854775808 ≤ m) (h4 : m ≤ 9223372036854775807)
    (e : BitVec.ofInt 64 n = BitVec.ofInt 64 m) : n = m := by
  have := congrArg BitVec.toNat e
  rw [BitVec.toNat_ofInt, BitVec.toNat_ofInt] at this
  omega
theorem ofInt_inj_u64 {n m : Int} (h1 : 0 ≤ n) (h2 : n ≤ 18446744073709551615) (h3 : 0 ≤ m) (h4 : m ≤ 18446744073709551615)
    (e : BitVec.ofInt 64 n = BitVec.ofInt 64 m) : n = m := by
  have := congrArg BitVec.toNat e
  rw [BitVec.toNat_ofInt, BitVec.toNat_ofInt] at this
  omega

theorem mixI_eq {h n h' n' : Int} (e : mixI h n = mixI h' n') : mixB (BitVec.ofInt 64 h) (BitVec.ofInt 64 n) = mixB (BitVec.ofInt 64 h') (BitVec.ofInt 64 n') := by
  apply BitVec.eq_of_toNat_eq
  unfold mixI at e
  omega

/-- The number mixed in is told by the result. -/
theorem mixI_inj {h n m : Int} (h1 : -9223372036854775808 ≤ n) (h2 : n ≤ 9223372036854775807) (h3 : -9223372036854775808 ≤ m) (h4 : m ≤ 9223372036854775807)
    (e : mixI h n = mixI h m) : n = m := ofInt_inj_i64 h1 h2 h3 h4 (mixB_inj (mixI_eq e))
/-- The beginning is told by the result. -/
theorem mixI_inj' {g h n : Int} (h1 : 0 ≤ g) (h2 : g ≤ 18446744073709551615) (h3 : 0 ≤ h) (h4 : h ≤ 18446744073709551615)
    (e : mixI g n = mixI h n) : g = h := ofInt_inj_u64 h1 h2 h3 h4 (mixB_inj' (mixI_eq e))

/-- Numbers mixed in one after the other. -/
def foldI (h : Int) (l : List UInt8) : Int := l.foldl (fun h c => mixI h (c.toNat : Int)) h
/-- The bytes and their number mixed in. -/
def allI (h : Int) (l : List UInt8) : Int := mixI (foldI h l) (l.length : Int)
/-- Sum. -/
def sumI (key : Int) (l : List UInt8) : Int := allI (mixI 14695981039346656037 key) l
/-- Chain. -/
def chainI (key parent : Int) (l : List UInt8) : Int := allI (mixI (mixI 14695981039346656037 key) parent) l

theorem foldI_snoc (h : Int) (l : List UInt8) (c : UInt8) : foldI h (l ++ [c]) = mixI (foldI h l) (c.toNat : Int) := by simp [foldI]
theorem foldI_cons (h : Int) (l : List UInt8) (c : UInt8) : foldI h (c :: l) = foldI (mixI h (c.toNat : Int)) l := rfl
theorem foldI_append (h : Int) (l m : List UInt8) : foldI h (l ++ m) = foldI (foldI h l) m := by simp [foldI]
theorem foldI_bd (h : Int) (h1 : 0 ≤ h) (h2 : h ≤ 18446744073709551615) (l : List UInt8) : 0 ≤ foldI h l ∧ foldI h l ≤ 18446744073709551615 := by
  induction l generalizing h with
  | nil => exact ⟨h1, h2⟩
  | cons c l ih => exact ih _ (mixI_lo _ _) (mixI_hi _ _)
theorem foldI_inj {g h : Int} (h1 : 0 ≤ g) (h2 : g ≤ 18446744073709551615) (h3 : 0 ≤ h) (h4 : h ≤ 18446744073709551615) (l : List UInt8)
    (e : foldI g l = foldI h l) : g = h := by
  induction l generalizing g h with
  | nil => exact e
  | cons c l ih => exact mixI_inj' h1 h2 h3 h4 (ih (mixI_lo _ _) (mixI_hi _ _) (mixI_lo _ _) (mixI_hi _ _) e)
theorem allI_inj {g h : Int} (h1 : 0 ≤ g) (h2 : g ≤ 18446744073709551615) (h3 : 0 ≤ h) (h4 : h ≤ 18446744073709551615) (l : List UInt8)
    (e : allI g l = allI h l) : g = h := by
  have b1 := foldI_bd g h1 h2 l
  have b2 := foldI_bd h h3 h4 l
  exact foldI_inj h1 h2 h3 h4 l (mixI_inj' b1.1 b1.2 b2.1 b2.2 e)
theorem allI_lo (h : Int) (l : List UInt8) : 0 ≤ allI h l := mixI_lo _ _
theorem allI_hi (h : Int) (l : List UInt8) : allI h l ≤ 18446744073709551615 := mixI_hi _ _

/-- One byte is another: another sum. -/
theorem allI_byte {h : Int} (h1 : 0 ≤ h) (h2 : h ≤ 18446744073709551615) (l : List UInt8) (k : Nat) (hk : k < l.length) (c : UInt8)
    (e : allI h l = allI h (l.set k c)) : l[k] = c := by
  have hb := foldI_bd h h1 h2 l
  have hb' := foldI_bd h h1 h2 (l.set k c)
  unfold allI at e
  rw [List.length_set] at e
  have e1 := mixI_inj' hb.1 hb.2 hb'.1 hb'.2 e
  have hl : l = l.take k ++ l[k] :: l.drop (k + 1) := by rw [← List.drop_eq_getElem_cons hk, List.take_append_drop]
  have hs : l.set k c = l.take k ++ c :: l.drop (k + 1) := by rw [List.set_eq_take_append_cons_drop, if_pos hk]
  rw [hs] at e1
  conv at e1 => lhs; rw [hl]
  rw [foldI_append, foldI_append, foldI_cons, foldI_cons] at e1
  have e2 := foldI_inj (mixI_lo _ _) (mixI_hi _ _) (mixI_lo _ _) (mixI_hi _ _) _ e1
  have e3 := mixI_inj (by omega) (by have := l[k].toNat_lt; omega) (by omega) (by have := c.toNat_lt; omega) e2
  exact UInt8.toNat_inj.1 (by omega)

theorem chainI_parents {key p q : Int} (h1 : 0 ≤ p) (h2 : p ≤ 18446744073709551615) (h3 : 0 ≤ q) (h4 : q ≤ 18446744073709551615) (l : List UInt8)
    (e : chainI key p l = chainI key q l) : p = q := by
  have e1 := allI_inj (mixI_lo _ _) (mixI_hi _ _) (mixI_lo _ _) (mixI_hi _ _) l e
  exact ofInt_inj_u64 h1 h2 h3 h4 (mixB_inj (mixI_eq e1))

theorem mixI_00 : mixI 0 0 = 0 := by decide +kernel
theorem mixI_55 : mixI 5 5 = 0 := by decide +kernel
theorem mixI_01 : (mixI 0 1 != 0) = true := by decide +kernel
theorem sumI_01 : (sumI 0 [] != sumI 1 []) = true := by decide +kernel

theorem sumI_keys {key other : Int} (h1 : -9223372036854775808 ≤ key) (h2 : key ≤ 9223372036854775807) (h3 : -9223372036854775808 ≤ other) (h4 : other ≤ 9223372036854775807) (l : List UInt8)
    (e : sumI key l = sumI other l) : key = other :=
  mixI_inj h1 h2 h3 h4 (allI_inj (mixI_lo _ _) (mixI_hi _ _) (mixI_lo _ _) (mixI_hi _ _) l e)

end Go.Proofs.Ytokblidfekbeeaa
/- The plain law of frames: which bytes a frame has, what is taken from bytes, that a frame that is damaged, cut or read under another key is not accepted. No program in sight. -/
namespace Go.Proofs.Ytokblidfekbeeaa

/-- A number in k bytes, the lowest first. -/
def leN : Nat → Nat → List UInt8
  | 0, _ => []
  | k + 1, s => UInt8.ofNat (s % 256) :: leN k (s / 256)
/-- The number of bytes, the lowest first. -/
def unleN : List UInt8 → Nat
  | [] => 0
  | x :: l => x.toNat + 256 * unleN l

theorem leN_length : ∀ k s, (leN k s).length = k := by
  intro k
  induction k with
  | zero => intro s; rfl
  | succ k ih => intro s; simp [leN, ih]
theorem unleN_leN : ∀ k s, unleN (leN k s) = s % 256 ^ k := by
  intro k
  induction k with
  | zero => intro s; simp [leN, unleN, Nat.mod_one]
  | succ k ih =>
    intro s
    simp only [leN, unleN, ih, UInt8.toNat_ofNat']
    have e : s % 256 ^ (k + 1) = s % 256 + 256 * (s / 256 % 256 ^ k) := by rw [Nat.pow_succ, Nat.mul_comm, Nat.mod_mul]
    rw [e]
    omega
theorem unleN_lt (l : List UInt8) : unleN l < 256 ^ l.length := by
  induction l with
  | nil => simp [unleN]
  | cons x l ih =>
    have := x.toNat_lt
    simp only [unleN, List.length_cons, Nat.pow_succ]
    omega
theorem unleN_inj : ∀ (l m : List UInt8), l.length = m.length → unleN l = unleN m → l = m := by
  intro l
  induction l with
  | nil => intro m h _; exact (List.eq_nil_of_length_eq_zero h.symm).symm
  | cons x l ih =>
    intro m h e
    rcases m with _ | ⟨y, m⟩
    · simp at h
    · simp only [unleN] at e
      have hx := x.toNat_lt
      have hy := y.toNat_lt
      have e1 : x.toNat = y.toNat := by omega
      have e2 : unleN l = unleN m := by omega
      rw [UInt8.toNat_inj.1 e1, ih m (by simpa using h) e2]
theorem unleN_append (l m : List UInt8) : unleN (l ++ m) = unleN l + 256 ^ l.length * unleN m := by
  induction l with
  | nil => simp [unleN]
  | cons x l ih =>
    simp only [List.cons_append, unleN, ih, List.length_cons, Nat.pow_succ]
    rw [Nat.mul_add, Nat.mul_comm (256 ^ l.length) 256, Nat.mul_assoc]
    omega

/-- The head of a frame: its length and its sum. -/
def headN (key : Int) (p : List UInt8) : List UInt8 := encN (codeN (p.length : Int)) ++ leN 8 (sumI key p).toNat
/-- A frame. -/
def putN (key : Int) (p : List UInt8) : List UInt8 := if p.length ≤ 65536 then headN key p ++ p else []

/-- What Take returns: the record, the frame's length, the error. -/
structure Frm where
  p : List UInt8
  k : Nat
  e : Int
def frmE (e : Int) : Frm := ⟨[], 0, e⟩

def takeFr (key : Int) (l : List UInt8) : Frm :=
  if (takN l).e ≠ 0 then frmE (takN l).e
  else if (takN l).n < 0 then frmE 18
  else if 65536 < (takN l).n then frmE 2
  else if (l.length : Int) - (takN l).k < 8 + (takN l).n then frmE 17
  else if (unleN ((l.drop (takN l).k).take 8) : Int) ≠ sumI key ((l.drop ((takN l).k + 8)).take (takN l).n.toNat) then frmE 18
  else ⟨(l.drop ((takN l).k + 8)).take (takN l).n.toNat, (takN l).k + 8 + (takN l).n.toNat, 0⟩

theorem sumI_lo (key : Int) (p : List UInt8) : 0 ≤ sumI key p := mixI_lo _ _
theorem sumI_hi (key : Int) (p : List UInt8) : sumI key p ≤ 18446744073709551615 := mixI_hi _ _
theorem unle_sum (key : Int) (p : List UInt8) : (unleN (leN 8 (sumI key p).toNat) : Int) = sumI key p := by
  have h1 := sumI_lo key p
  have h2 := sumI_hi key p
  rw [unleN_leN, Nat.mod_eq_of_lt (by omega)]
  omega

/-- What Take makes of bytes that begin with the length n and 8 + n more bytes. -/
theorem takeFr_of (key : Int) (n : Nat) (hn : n ≤ 65536) (s p more : List UInt8) (hs : s.length = 8) (hp : p.length = n) :
    takeFr key (encN (codeN (n : Int)) ++ (s ++ (p ++ more))) = if (unleN s : Int) = sumI key p then ⟨p, (encN (codeN (n : Int))).length + 8 + n, 0⟩ else frmE 18 := by
  have ht := takN_enc (n : Int) (by omega) (by omega) (s ++ (p ++ more))
  unfold takeFr
  rw [ht]
  generalize hE : encN (codeN (n : Int)) = E
  have d1 : (E ++ (s ++ (p ++ more))).drop E.length = s ++ (p ++ more) := List.drop_left' rfl
  have d2 : (E ++ (s ++ (p ++ more))).drop (E.length + 8) = p ++ more := by
    rw [← List.drop_drop, d1, List.drop_left' hs]
  simp only [d1, d2]
  rw [if_neg (by simp), if_neg (by omega), if_neg (by omega), if_neg (by simp only [List.length_append]; omega)]
  rw [List.take_left' hs, show ((n : Int)).toNat = n from by omega, List.take_left' hp]
  by_cases h : (unleN s : Int) = sumI key p
  · rw [if_neg (by simpa using h), if_pos h]
  · rw [if_pos h, if_neg h]

/-- Take returns the record that was put, whatever follows. -/
theorem takeFr_put (key : Int) (p more : List UInt8) (h : p.length ≤ 65536) : takeFr key (putN key p ++ more) = ⟨p, (putN key p).length, 0⟩ := by
  unfold putN
  rw [if_pos h]
  unfold headN
  rw [List.append_assoc, List.append_assoc, takeFr_of key p.length h _ p more (leN_length _ _) rfl, if_pos (unle_sum _ _)]
  congr 1
  simp only [List.length_append, leN_length]

/-- Another key. -/
theorem takeFr_key (key other : Int) (p : List UInt8) (h : p.length ≤ 65536) (h1 : -9223372036854775808 ≤ key) (h2 : key ≤ 9223372036854775807) (h3 : -9223372036854775808 ≤ other) (h4 : other ≤ 9223372036854775807) (hne : key ≠ other) :
    takeFr other (putN key p) = frmE 18 := by
  unfold putN
  rw [if_pos h]
  unfold headN
  have e : encN (codeN (p.length : Int)) ++ leN 8 (sumI key p).toNat ++ p = encN (codeN (p.length : Int)) ++ (leN 8 (sumI key p).toNat ++ (p ++ [])) := by simp
  rw [e, takeFr_of other p.length h _ p [] (leN_length _ _) rfl, if_neg]
  rw [unle_sum]
  exact fun e => hne (sumI_keys h1 h2 h3 h4 p e)

/-- A byte behind the length is another. -/
theorem takeFr_damage (key : Int) (p : List UInt8) (h : p.length ≤ 65536) (j : Nat) (hj : j < 8 + p.length) (c : UInt8) (hne : (leN 8 (sumI key p).toNat ++ p)[j]'(by rw [List.length_append, leN_length]; exact hj) ≠ c) :
    takeFr key (encN (codeN (p.length : Int)) ++ (leN 8 (sumI key p).toNat ++ p).set j c) = frmE 18 := by
  by_cases hj8 : j < 8
  · have e : (leN 8 (sumI key p).toNat ++ p).set j c = (leN 8 (sumI key p).toNat).set j c ++ (p ++ []) := by
      rw [List.set_append_left _ _ (by rw [leN_length]; exact hj8), List.append_nil]
    rw [e, takeFr_of key p.length h _ p [] (by rw [List.length_set, leN_length]) rfl, if_neg]
    intro e2
    have e2' := e2.trans (unle_sum key p).symm
    have e3 := unleN_inj _ _ (by rw [List.length_set]) (Int.natCast_inj.1 e2')
    apply hne
    rw [List.getElem_append_left (by rw [leN_length]; exact hj8)]
    have e4 := congrArg (fun l => l[j]?) e3
    simp only [List.getElem?_set, leN_length, hj8, if_true] at e4
    rw [List.getElem?_eq_getElem (by rw [leN_length]; exact hj8)] at e4
    simp only [Option.some.injEq] at e4
    exact e4.symm
  · have e : (leN 8 (sumI key p).toNat ++ p).set j c = leN 8 (sumI key p).toNat ++ (p.set (j - 8) c ++ []) := by
      rw [List.set_append_right _ _ (by rw [leN_length]; omega), leN_length, List.append_nil]
    rw [e, takeFr_of key p.length h _ (p.set (j - 8) c) [] (leN_length _ _) (by rw [List.length_set]), if_neg]
    intro e2
    rw [unle_sum] at e2
    apply hne
    rw [List.getElem_append_right (by rw [leN_length]; omega)]
    simp only [leN_length]
    exact allI_byte (mixI_lo _ _) (mixI_hi _ _) p (j - 8) (by omega) c e2

/-- TakeInt of bytes that are cut within an integer. -/
theorem takF_cut : ∀ (u f : Nat) (p : List UInt8) (k : Nat), k < (encN u).length → (encN u).length ≤ f → takF f p ((encN u).take k) = .short := by
  intro u
  induction u using Nat.strongRecOn with
  | ind u ih =>
    intro f p k hk hf
    obtain ⟨f, rfl⟩ : ∃ f', f = f' + 1 := ⟨f - 1, by omega⟩
    rcases k with _ | k
    · rfl
    · by_cases h : u < 128
      · rw [encN_lt u h] at hk
        simp at hk
      · rw [encN_ge u h] at hk hf ⊢
        simp only [List.length_cons] at hk hf
        rw [List.take_succ_cons]
        simp only [takF, UInt8.toNat_ofNat']
        rw [if_neg (by omega)]
        exact ih (u / 128) (by omega) f _ k (by omega) (by omega)

/-- A frame that is cut is too short. -/
theorem takeFr_cut (key : Int) (p : List UInt8) (h : p.length ≤ 65536) (k : Nat) (hk : k < (putN key p).length) : takeFr key ((putN key p).take k) = frmE 17 := by
  unfold putN at hk ⊢
  rw [if_pos h] at hk ⊢
  unfold headN at hk ⊢
  have hlen := encN_len10 (codeN (p.length : Int)) (codeN_lt _ (by omega) (by omega))
  have hht := takN_enc (p.length : Int) (by omega) (by omega)
  simp only [List.length_append, leN_length] at hk
  by_cases hc : k < (encN (codeN (p.length : Int))).length
  · have e : (encN (codeN (p.length : Int)) ++ leN 8 (sumI key p).toNat ++ p).take k = (encN (codeN (p.length : Int))).take k := by
      rw [List.append_assoc, List.take_append_of_le_length (by omega)]
    rw [e]
    have ht : takN ((encN (codeN (p.length : Int))).take k) = .short := takF_cut _ 10 [] k hc hlen
    unfold takeFr
    rw [ht]
    rfl
  · have e : (encN (codeN (p.length : Int)) ++ leN 8 (sumI key p).toNat ++ p).take k = encN (codeN (p.length : Int)) ++ (leN 8 (sumI key p).toNat ++ p).take (k - (encN (codeN (p.length : Int))).length) := by
      rw [List.append_assoc, List.take_append]
      congr 1
      exact List.take_of_length_le (by omega)
    rw [e]
    unfold takeFr
    rw [hht]
    rw [if_neg (by simp), if_neg (by simp only; omega), if_neg (by simp only; omega), if_pos]
    simp only [List.length_append, List.length_take, leN_length]
    omega

end Go.Proofs.Ytokblidfekbeeaa
/- The plain law of rows of frames: what All returns. No program in sight. -/
namespace Go.Proofs.Ytokblidfekbeeaa

theorem putN_lenP (key : Int) (p : List UInt8) (h : p.length ≤ 65536) : 9 + p.length ≤ (putN key p).length ∧ (putN key p).length ≤ 18 + p.length := by
  have h1 := encN_pos (codeN (p.length : Int))
  have h2 := encN_len10 _ (codeN_lt (p.length : Int) (by omega) (by omega))
  unfold putN
  rw [if_pos h]
  unfold headN
  rw [List.length_append, List.length_append, leN_length]
  omega

theorem le8_back (s : List UInt8) (hs : s.length = 8) : leN 8 (unleN s) = s := by
  have h1 := unleN_lt s
  rw [hs] at h1
  refine unleN_inj _ _ (by rw [leN_length, hs]) ?_
  rw [unleN_leN, Nat.mod_eq_of_lt h1]

/-- What Take accepts is a frame. -/
theorem takeFr_ok (key : Int) (l : List UInt8) (h : (takeFr key l).e = 0) :
    (takeFr key l).p.length ≤ 65536 ∧ (takeFr key l).k = (putN key (takeFr key l).p).length ∧ (takeFr key l).k ≤ l.length ∧ l.take (takeFr key l).k = putN key (takeFr key l).p := by
  unfold takeFr at h ⊢
  by_cases h1 : (takN l).e = 0
  · have c1 : ¬ (takN l).e ≠ 0 := fun hn => hn h1
    rw [if_neg c1] at h ⊢
    by_cases h2 : (takN l).n < 0
    · rw [if_pos h2] at h; simp [frmE] at h
    · rw [if_neg h2] at h ⊢
      by_cases h3 : 65536 < (takN l).n
      · rw [if_pos h3] at h; simp [frmE] at h
      · rw [if_neg h3] at h ⊢
        by_cases h4 : (l.length : Int) - (takN l).k < 8 + (takN l).n
        · rw [if_pos h4] at h; simp [frmE] at h
        · rw [if_neg h4] at h ⊢
          by_cases h5 : (unleN ((l.drop (takN l).k).take 8) : Int) ≠ sumI key ((l.drop ((takN l).k + 8)).take (takN l).n.toNat)
          · rw [if_pos h5] at h; simp [frmE] at h
          · rw [if_neg h5] at h ⊢
            simp only [Decidable.not_not] at h5
            obtain ⟨n, g1, g2, g3, g4, g5, g6⟩ := takN_ok l h1
            rw [g3] at h2 h3 h4 h5 ⊢
            rw [g4] at h4 h5 ⊢
            obtain ⟨m, rfl⟩ : ∃ m : Nat, n = (m : Int) := ⟨n.toNat, by omega⟩
            simp only [Int.toNat_natCast] at h5 ⊢
            generalize hen : encN (codeN (m : Int)) = en at *
            have hpl : ((l.drop (en.length + 8)).take m).length = m := by rw [List.length_take, List.length_drop]; omega
            have h8 : ((l.drop en.length).take 8).length = 8 := by rw [List.length_take, List.length_drop]; omega
            have hput : putN key ((l.drop (en.length + 8)).take m) = l.take (en.length + 8 + m) := by
              unfold putN headN
              rw [hpl, if_pos (by omega), hen, ← h5, Int.toNat_natCast, le8_back _ h8]
              rw [← g6, List.length_take, Nat.min_eq_left g5]
              rw [List.take_add, List.take_add]
            refine ⟨by rw [hpl]; omega, ?_, by omega, hput.symm⟩
            rw [hput, List.length_take]
            omega
  · rw [if_pos h1] at h
    exact absurd h h1

/-- The frames that bytes begin with, from place p on. -/
structure AllT where
  r : List (List UInt8)
  k : Nat
def allG (key : Int) : Nat → List UInt8 → Nat → List (List UInt8) → AllT
  | 0, _, p, acc => ⟨acc, p⟩
  | f + 1, l, p, acc => if p < l.length then (if (takeFr key (l.drop p)).e = 0 then allG key f l (p + (takeFr key (l.drop p)).k) (acc ++ [(takeFr key (l.drop p)).p]) else ⟨acc, p⟩) else ⟨acc, p⟩
def allT (key : Int) (l : List UInt8) : AllT := allG key (l.length + 1) l 0 []

theorem takeFr_k (key : Int) (l : List UInt8) (h : (takeFr key l).e = 0) : 9 ≤ (takeFr key l).k ∧ (takeFr key l).k ≤ l.length := by
  obtain ⟨h1, h2, h3, _⟩ := takeFr_ok key l h
  have := putN_lenP key _ h1
  omega

/-- More fuel changes nothing. -/
theorem allG_fuel (key : Int) (l : List UInt8) : ∀ (f p : Nat) (acc : List (List UInt8)), l.length < f + p → allG key f l p acc = allG key (f + 1) l p acc := by
  intro f
  induction f with
  | zero => intro p acc h; simp only [allG]; rw [if_neg (by omega)]
  | succ f ih =>
    intro p acc h
    rw [allG, allG]
    by_cases h1 : p < l.length
    · rw [if_pos h1, if_pos h1]
      by_cases h2 : (takeFr key (l.drop p)).e = 0
      · rw [if_pos h2, if_pos h2]
        have := takeFr_k key _ h2
        exact ih _ _ (by omega)
      · rw [if_neg h2, if_neg h2]
    · rw [if_neg h1, if_neg h1]

/-- The frames of records. -/
def frames (key : Int) (rs : List (List UInt8)) : List UInt8 := rs.flatMap (putN key)
theorem frames_cons (key : Int) (r : List UInt8) (rs : List (List UInt8)) : frames key (r :: rs) = putN key r ++ frames key rs := by simp [frames]
theorem frames_append (key : Int) (rs qs : List (List UInt8)) : frames key (rs ++ qs) = frames key rs ++ frames key qs := by simp [frames]

/-- Records that were put one after the other are read back, whatever follows that is no frame. -/
theorem allG_frames (key : Int) : ∀ (rs : List (List UInt8)) (pre more : List UInt8) (f : Nat) (acc : List (List UInt8)), (∀ r ∈ rs, r.length ≤ 65536) → (pre ++ (frames key rs ++ more)).length < f + pre.length → (more = [] ∨ (takeFr key more).e ≠ 0) →
    allG key f (pre ++ (frames key rs ++ more)) pre.length acc = ⟨acc ++ rs, pre.length + (frames key rs).length⟩ := by
  intro rs
  induction rs with
  | nil =>
    intro pre more f acc _ hf hm
    rcases f with _ | f
    · simp [allG, frames]
    · simp only [allG, frames, List.flatMap_nil, List.nil_append, List.append_nil, List.length_nil, Nat.add_zero]
      rcases hm with rfl | hm
      · rw [if_neg (by simp)]
      · by_cases h0 : pre.length < (pre ++ more).length
        · rw [if_pos h0, List.drop_left' rfl, if_neg hm]
        · rw [if_neg h0]
  | cons r rs ih =>
    intro pre more f acc hr hf hm
    have hr1 := hr r (by simp)
    have hl := putN_lenP key r hr1
    rw [frames_cons] at hf ⊢
    simp only [List.length_append] at hf
    obtain ⟨f, rfl⟩ : ∃ f', f = f' + 1 := ⟨f - 1, by omega⟩
    rw [allG, if_pos (by simp only [List.length_append]; omega), List.drop_left' rfl, List.append_assoc, takeFr_put key r _ hr1]
    simp only [if_true]
    have := ih (pre ++ putN key r) more f (acc ++ [r]) (fun x hx => hr x (by simp [hx])) (by simp only [List.length_append]; omega) hm
    rw [List.length_append, List.append_assoc] at this
    rw [this]
    simp only [List.append_assoc, List.cons_append, List.nil_append, List.length_append]
    congr 1
    omega

theorem allT_frames (key : Int) (rs : List (List UInt8)) (more : List UInt8) (hr : ∀ r ∈ rs, r.length ≤ 65536) (hm : more = [] ∨ (takeFr key more).e ≠ 0) : allT key (frames key rs ++ more) = ⟨rs, (frames key rs).length⟩ := by
  have := allG_frames key rs [] more ((frames key rs ++ more).length + 1) [] hr (by simp) hm
  simpa [allT] using this
end Go.Proofs.Ytokblidfekbeeaa
