/-
  The bytes of a list of integers, and how they are read. No program in sight.
-/
import Derived.Test.YtneeajegegmigaaWirP
namespace Go.Proofs.Ytneeajegegmigaa

/-- The bytes of a list of integers, without its length. -/
def intsF (l : List Int) : List UInt8 := l.flatMap fun n => encN (codeN n)
theorem intsF_snoc (l : List Int) (n : Int) : intsF (l ++ [n]) = intsF l ++ encN (codeN n) := by simp [intsF]
theorem intsF_len (l : List Int) (h : ∀ n ∈ l, -9223372036854775808 ≤ n ∧ n ≤ 9223372036854775807) : (intsF l).length ≤ 10 * l.length := by
  induction l with
  | nil => simp [intsF]
  | cons n l ih =>
    have h1 := encN_len10 _ (codeN_lt n (h n (by simp)).1 (h n (by simp)).2)
    have h2 := ih fun m hm => h m (by simp [hm])
    simp only [intsF, List.flatMap_cons, List.length_append, List.length_cons] at *
    omega

theorem takN_k (l : List UInt8) (h : (takN l).e = 0) : (takN l).k ≤ l.length := by
  obtain ⟨n, _, _, _, h4, h5, _⟩ := takN_ok l h
  omega
/-- What TakeInts returns. -/
structure IntsT where
  q : List Int
  k : Nat
  e : Int
def intsG : Nat → List UInt8 → Nat → List Int → IntsT
  | 0, _, p, acc => ⟨acc, p, 0⟩
  | f + 1, l, p, acc => if (takN (l.drop p)).e = 0 then intsG f l (p + (takN (l.drop p)).k) (acc ++ [(takN (l.drop p)).n]) else ⟨[], 0, (takN (l.drop p)).e⟩

theorem intsG_back : ∀ (q : List Int) (p more : List UInt8) (acc : List Int), (∀ n ∈ q, -9223372036854775808 ≤ n ∧ n ≤ 9223372036854775807) →
    intsG q.length (p ++ (intsF q ++ more)) p.length acc = ⟨acc ++ q, p.length + (intsF q).length, 0⟩ := by
  intro q
  induction q with
  | nil => intro p more acc _; simp [intsG, intsF]
  | cons n q ih =>
    intro p more acc hb
    have e1 : intsF (n :: q) = encN (codeN n) ++ intsF q := by simp [intsF]
    simp only [List.length_cons, intsG]
    rw [List.drop_left' rfl, e1, List.append_assoc, takN_enc n (hb n (by simp)).1 (hb n (by simp)).2]
    simp only [if_true]
    have := ih (p ++ encN (codeN n)) more (acc ++ [n]) (fun m hm => hb m (by simp [hm]))
    rw [List.length_append, List.append_assoc] at this
    rw [this]
    simp only [List.append_assoc, List.cons_append, List.nil_append, List.length_append]
    congr 1
    omega

/-- Lists of one length with the same bytes are equal. -/
theorem intsF_inj {a b : List Int} (hl : a.length = b.length) (ha : ∀ n ∈ a, -9223372036854775808 ≤ n ∧ n ≤ 9223372036854775807) (hb : ∀ n ∈ b, -9223372036854775808 ≤ n ∧ n ≤ 9223372036854775807) (h : intsF a = intsF b) : a = b := by
  have h1 := intsG_back a [] [] [] ha
  have h2 := intsG_back b [] [] [] hb
  rw [h, hl, h2] at h1
  injection h1 with h1
  simpa using h1.symm
end Go.Proofs.Ytneeajegegmigaa
