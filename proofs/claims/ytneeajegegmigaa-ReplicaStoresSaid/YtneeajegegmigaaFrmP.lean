/-
  The plain law of frames: which bytes a frame has, what is taken from bytes, that a frame that is damaged, cut or read under another key is not accepted. No program in sight.
-/
import Derived.Test.YtneeajegegmigaaWirP
import Derived.Test.YtneeajegegmigaaMix
namespace Go.Proofs.Ytneeajegegmigaa

/-- A number in k bytes, the lowest first. -/
def leN : Nat → Nat → List UInt8
  | 0, _ => []
  | k + 1, s => UInt8.ofNat (s % 256) :: leN k (s / 256)
/-- The number of bytes, the lowest first. -/
def unleN : List UInt8 → Nat
  | [] => 0
  | x :: l => x.toNat + 256 * unleN l

theorem leN_length : ∀ k s, (leN k s).length = k := by
  intro k
  induction k with
  | zero => intro s; rfl
  | succ k ih => intro s; simp [leN, ih]
theorem unleN_leN : ∀ k s, unleN (leN k s) = s % 256 ^ k := by
  intro k
  induction k with
  | zero => intro s; simp [leN, unleN, Nat.mod_one]
  | succ k ih =>
    intro s
    simp only [leN, unleN, ih, UInt8.toNat_ofNat']
    have e : s % 256 ^ (k + 1) = s % 256 + 256 * (s / 256 % 256 ^ k) := by rw [Nat.pow_succ, Nat.mul_comm, Nat.mod_mul]
    rw [e]
    omega
theorem unleN_lt (l : List UInt8) : unleN l < 256 ^ l.length := by
  induction l with
  | nil => simp [unleN]
  | cons x l ih =>
    have := x.toNat_lt
    simp only [unleN, List.length_cons, Nat.pow_succ]
    omega
theorem unleN_inj : ∀ (l m : List UInt8), l.length = m.length → unleN l = unleN m → l = m := by
  intro l
  induction l with
  | nil => intro m h _; exact (List.eq_nil_of_length_eq_zero h.symm).symm
  | cons x l ih =>
    intro m h e
    rcases m with _ | ⟨y, m⟩
    · simp at h
    · simp only [unleN] at e
      have hx := x.toNat_lt
      have hy := y.toNat_lt
      have e1 : x.toNat = y.toNat := by omega
      have e2 : unleN l = unleN m := by omega
      rw [UInt8.toNat_inj.1 e1, ih m (by simpa using h) e2]
theorem unleN_append (l m : List UInt8) : unleN (l ++ m) = unleN l + 256 ^ l.length * unleN m := by
  induction l with
  | nil => simp [unleN]
  | cons x l ih =>
    simp only [List.cons_append, unleN, ih, List.length_cons, Nat.pow_succ]
    rw [Nat.mul_add, Nat.mul_comm (256 ^ l.length) 256, Nat.mul_assoc]
    omega

/-- The head of a frame: its length and its sum. -/
def headN (key : Int) (p : List UInt8) : List UInt8 := encN (codeN (p.length : Int)) ++ leN 8 (sumI key p).toNat
/-- A frame. -/
def putN (key : Int) (p : List UInt8) : List UInt8 := if p.length ≤ 65536 then headN key p ++ p else []

/-- What Take returns: the record, the frame's length, the error. -/
structure Frm where
  p : List UInt8
  k : Nat
  e : Int
def frmE (e : Int) : Frm := ⟨[], 0, e⟩

def takeFr (key : Int) (l : List UInt8) : Frm :=
  if (takN l).e ≠ 0 then frmE (takN l).e
  else if (takN l).n < 0 then frmE 18
  else if 65536 < (takN l).n then frmE 2
  else if (l.length : Int) - (takN l).k < 8 + (takN l).n then frmE 17
  else if (unleN ((l.drop (takN l).k).take 8) : Int) ≠ sumI key ((l.drop ((takN l).k + 8)).take (takN l).n.toNat) then frmE 18
  else ⟨(l.drop ((takN l).k + 8)).take (takN l).n.toNat, (takN l).k + 8 + (takN l).n.toNat, 0⟩

theorem sumI_lo (key : Int) (p : List UInt8) : 0 ≤ sumI key p := mixI_lo _ _
theorem sumI_hi (key : Int) (p : List UInt8) : sumI key p ≤ 18446744073709551615 := mixI_hi _ _
theorem unle_sum (key : Int) (p : List UInt8) : (unleN (leN 8 (sumI key p).toNat) : Int) = sumI key p := by
  have h1 := sumI_lo key p
  have h2 := sumI_hi key p
  rw [unleN_leN, Nat.mod_eq_of_lt (by omega)]
  omega

/-- What Take makes of bytes that begin with the length n and 8 + n more bytes. -/
theorem takeFr_of (key : Int) (n : Nat) (hn : n ≤ 65536) (s p more : List UInt8) (hs : s.length = 8) (hp : p.length = n) :
    takeFr key (encN (codeN (n : Int)) ++ (s ++ (p ++ more))) = if (unleN s : Int) = sumI key p then ⟨p, (encN (codeN (n : Int))).length + 8 + n, 0⟩ else frmE 18 := by
  have ht := takN_enc (n : Int) (by omega) (by omega) (s ++ (p ++ more))
  unfold takeFr
  rw [ht]
  generalize hE : encN (codeN (n : Int)) = E
  have d1 : (E ++ (s ++ (p ++ more))).drop E.length = s ++ (p ++ more) := List.drop_left' rfl
  have d2 : (E ++ (s ++ (p ++ more))).drop (E.length + 8) = p ++ more := by
    rw [← List.drop_drop, d1, List.drop_left' hs]
  simp only [d1, d2]
  rw [if_neg (by simp), if_neg (by omega), if_neg (by omega), if_neg (by simp only [List.length_append]; omega)]
  rw [List.take_left' hs, show ((n : Int)).toNat = n from by omega, List.take_left' hp]
  by_cases h : (unleN s : Int) = sumI key p
  · rw [if_neg (by simpa using h), if_pos h]
  · rw [if_pos h, if_neg h]

/-- Take returns the record that was put, whatever follows. -/
theorem takeFr_put (key : Int) (p more : List UInt8) (h : p.length ≤ 65536) : takeFr key (putN key p ++ more) = ⟨p, (putN key p).length, 0⟩ := by
  unfold putN
  rw [if_pos h]
  unfold headN
  rw [List.append_assoc, List.append_assoc, takeFr_of key p.length h _ p more (leN_length _ _) rfl, if_pos (unle_sum _ _)]
  congr 1
  simp only [List.length_append, leN_length]

/-- Another key. -/
theorem takeFr_key (key other : Int) (p : List UInt8) (h : p.length ≤ 65536) (h1 : -9223372036854775808 ≤ key) (h2 : key ≤ 9223372036854775807) (h3 : -9223372036854775808 ≤ other) (h4 : other ≤ 9223372036854775807) (hne : key ≠ other) :
    takeFr other (putN key p) = frmE 18 := by
  unfold putN
  rw [if_pos h]
  unfold headN
  have e : encN (codeN (p.length : Int)) ++ leN 8 (sumI key p).toNat ++ p = encN (codeN (p.length : Int)) ++ (leN 8 (sumI key p).toNat ++ (p ++ [])) := by simp
  rw [e, takeFr_of other p.length h _ p [] (leN_length _ _) rfl, if_neg]
  rw [unle_sum]
  exact fun e => hne (sumI_keys h1 h2 h3 h4 p e)

/-- A byte behind the length is another. -/
theorem takeFr_damage (key : Int) (p : List UInt8) (h : p.length ≤ 65536) (j : Nat) (hj : j < 8 + p.length) (c : UInt8) (hne : (leN 8 (sumI key p).toNat ++ p)[j]'(by rw [List.length_append, leN_length]; exact hj) ≠ c) :
    takeFr key (encN (codeN (p.length : Int)) ++ (leN 8 (sumI key p).toNat ++ p).set j c) = frmE 18 := by
  by_cases hj8 : j < 8
  · have e : (leN 8 (sumI key p).toNat ++ p).set j c = (leN 8 (sumI key p).toNat).set j c ++ (p ++ []) := by
      rw [List.set_append_left _ _ (by rw [leN_length]; exact hj8), List.append_nil]
    rw [e, takeFr_of key p.length h _ p [] (by rw [List.length_set, leN_length]) rfl, if_neg]
    intro e2
    have e2' := e2.trans (unle_sum key p).symm
    have e3 := unleN_inj _ _ (by rw [List.length_set]) (Int.natCast_inj.1 e2')
    apply hne
    rw [List.getElem_append_left (by rw [leN_length]; exact hj8)]
    have e4 := congrArg (fun l => l[j]?) e3
    simp only [List.getElem?_set, leN_length, hj8, if_true] at e4
    rw [List.getElem?_eq_getElem (by rw [leN_length]; exact hj8)] at e4
    simp only [Option.some.injEq] at e4
    exact e4.symm
  · have e : (leN 8 (sumI key p).toNat ++ p).set j c = leN 8 (sumI key p).toNat ++ (p.set (j - 8) c ++ []) := by
      rw [List.set_append_right _ _ (by rw [leN_length]; omega), leN_length, List.append_nil]
    rw [e, takeFr_of key p.length h _ (p.set (j - 8) c) [] (leN_length _ _) (by rw [List.length_set]), if_neg]
    intro e2
    rw [unle_sum] at e2
    apply hne
    rw [List.getElem_append_right (by rw [leN_length]; omega)]
    simp only [leN_length]
    exact allI_byte (mixI_lo _ _) (mixI_hi _ _) p (j - 8) (by omega) c e2

/-- TakeInt of bytes that are cut within an integer. -/
theorem takF_cut : ∀ (u f : Nat) (p : List UInt8) (k : Nat), k < (encN u).length → (encN u).length ≤ f → takF f p ((encN u).take k) = .short := by
  intro u
  induction u using Nat.strongRecOn with
  | ind u ih =>
    intro f p k hk hf
    obtain ⟨f, rfl⟩ : ∃ f', f = f' + 1 := ⟨f - 1, by omega⟩
    rcases k with _ | k
    · rfl
    · by_cases h : u < 128
      · rw [encN_lt u h] at hk
        simp at hk
      · rw [encN_ge u h] at hk hf ⊢
        simp only [List.length_cons] at hk hf
        rw [List.take_succ_cons]
        simp only [takF, UInt8.toNat_ofNat']
        rw [if_neg (by omega)]
        exact ih (u / 128) (by omega) f _ k (by omega) (by omega)

/-- A frame that is cut is too short. -/
theorem takeFr_cut (key : Int) (p : List UInt8) (h : p.length ≤ 65536) (k : Nat) (hk : k < (putN key p).length) : takeFr key ((putN key p).take k) = frmE 17 := by
  unfold putN at hk ⊢
  rw [if_pos h] at hk ⊢
  unfold headN at hk ⊢
  have hlen := encN_len10 (codeN (p.length : Int)) (codeN_lt _ (by omega) (by omega))
  have hht := takN_enc (p.length : Int) (by omega) (by omega)
  simp only [List.length_append, leN_length] at hk
  by_cases hc : k < (encN (codeN (p.length : Int))).length
  · have e : (encN (codeN (p.length : Int)) ++ leN 8 (sumI key p).toNat ++ p).take k = (encN (codeN (p.length : Int))).take k := by
      rw [List.append_assoc, List.take_append_of_le_length (by omega)]
    rw [e]
    have ht : takN ((encN (codeN (p.length : Int))).take k) = .short := takF_cut _ 10 [] k hc hlen
    unfold takeFr
    rw [ht]
    rfl
  · have e : (encN (codeN (p.length : Int)) ++ leN 8 (sumI key p).toNat ++ p).take k = encN (codeN (p.length : Int)) ++ (leN 8 (sumI key p).toNat ++ p).take (k - (encN (codeN (p.length : Int))).length) := by
      rw [List.append_assoc, List.take_append]
      congr 1
      exact List.take_of_length_le (by omega)
    rw [e]
    unfold takeFr
    rw [hht]
    rw [if_neg (by simp), if_neg (by simp only; omega), if_neg (by simp only; omega), if_pos]
    simp only [List.length_append, List.length_take, leN_length]
    omega

end Go.Proofs.Ytneeajegegmigaa
