/-
  The plain law of taking lengths, texts and lists. No program in sight.
-/
import Derived.Test.YtjplcnjegajhpaaWirL
namespace Go.Proofs.Ytjplcnjegajhpaa

/-- What takeLength returns. -/
def lenT (l : List UInt8) : Tak :=
  if (takN l).e = 0 then (if (takN l).n < 0 then ⟨0, 0, 18⟩ else if 65536 < (takN l).n then ⟨0, 0, 2⟩ else takN l) else ⟨0, 0, (takN l).e⟩

theorem takN_k (l : List UInt8) (h : (takN l).e = 0) : (takN l).k ≤ l.length := by
  obtain ⟨n, _, _, _, h4, h5, _⟩ := takN_ok l h
  omega
theorem lenT_ok (l : List UInt8) (h : (lenT l).e = 0) : lenT l = takN l ∧ (takN l).e = 0 ∧ 0 ≤ (lenT l).n ∧ (lenT l).n ≤ 65536 ∧ (lenT l).k ≤ l.length := by
  unfold lenT at h ⊢
  by_cases h1 : (takN l).e = 0
  · rw [if_pos h1] at h ⊢
    by_cases h2 : (takN l).n < 0
    · rw [if_pos h2] at h; simp at h
    · rw [if_neg h2] at h ⊢
      by_cases h3 : 65536 < (takN l).n
      · rw [if_pos h3] at h; simp at h
      · rw [if_neg h3]
        exact ⟨rfl, h1, by omega, by omega, takN_k l h1⟩
  · rw [if_neg h1] at h
    exact absurd h h1

/-- What TakeText returns: the text, the number of its bytes, the error. -/
structure TxtT where
  s : List UInt8
  k : Nat
  e : Int
def textT (l : List UInt8) : TxtT :=
  if (lenT l).e = 0 then (if (l.length : Int) - (lenT l).k < (lenT l).n then ⟨[], 0, 17⟩ else ⟨(l.drop (lenT l).k).take (lenT l).n.toNat, (lenT l).k + (lenT l).n.toNat, 0⟩) else ⟨[], 0, (lenT l).e⟩

/-- What TakeInts returns. -/
structure IntsT where
  q : List Int
  k : Nat
  e : Int
def intsG : Nat → List UInt8 → Nat → List Int → IntsT
  | 0, _, p, acc => ⟨acc, p, 0⟩
  | f + 1, l, p, acc => if (takN (l.drop p)).e = 0 then intsG f l (p + (takN (l.drop p)).k) (acc ++ [(takN (l.drop p)).n]) else ⟨[], 0, (takN (l.drop p)).e⟩
def intsT (l : List UInt8) : IntsT := if (lenT l).e = 0 then intsG (lenT l).n.toNat l (lenT l).k [] else ⟨[], 0, (lenT l).e⟩

theorem lenT_enc (n : Nat) (h : n ≤ 65536) (more : List UInt8) : lenT (encN (codeN (n : Int)) ++ more) = ⟨n, (encN (codeN (n : Int))).length, 0⟩ := by
  unfold lenT
  rw [takN_enc _ (by omega) (by omega)]
  simp only [if_true]
  rw [if_neg (by omega), if_neg (by omega)]

/-- What was written is read back. -/
theorem textT_back (s more : List UInt8) (h : s.length ≤ 65536) : textT (textN s ++ more) = ⟨s, (textN s).length, 0⟩ := by
  unfold textT textN
  rw [List.append_assoc, lenT_enc _ h]
  simp only [if_true, List.length_append, Int.toNat_natCast]
  rw [if_neg (by omega)]
  congr 1
  rw [List.drop_left' rfl, List.take_left' rfl]

theorem intsG_back : ∀ (q : List Int) (p more : List UInt8) (acc : List Int), (∀ n ∈ q, -9223372036854775808 ≤ n ∧ n ≤ 9223372036854775807) →
    intsG q.length (p ++ (intsF q ++ more)) p.length acc = ⟨acc ++ q, p.length + (intsF q).length, 0⟩ := by
  intro q
  induction q with
  | nil => intro p more acc _; simp [intsG, intsF]
  | cons n q ih =>
    intro p more acc hb
    have e1 : intsF (n :: q) = encN (codeN n) ++ intsF q := by simp [intsF]
    simp only [List.length_cons, intsG]
    rw [List.drop_left' rfl, e1, List.append_assoc, takN_enc n (hb n (by simp)).1 (hb n (by simp)).2]
    simp only [if_true]
    have := ih (p ++ encN (codeN n)) more (acc ++ [n]) (fun m hm => hb m (by simp [hm]))
    rw [List.length_append, List.append_assoc] at this
    rw [this]
    simp only [List.append_assoc, List.cons_append, List.nil_append, List.length_append]
    congr 1
    omega

theorem intsT_back (q : List Int) (more : List UInt8) (h : q.length ≤ 65536) (hb : ∀ n ∈ q, -9223372036854775808 ≤ n ∧ n ≤ 9223372036854775807) : intsT (intsN q ++ more) = ⟨q, (intsN q).length, 0⟩ := by
  unfold intsT intsN
  rw [List.append_assoc, lenT_enc _ h]
  simp only [if_true, List.length_append, Int.toNat_natCast]
  rw [intsG_back q _ more [] hb]
  simp
end Go.Proofs.Ytjplcnjegajhpaa
