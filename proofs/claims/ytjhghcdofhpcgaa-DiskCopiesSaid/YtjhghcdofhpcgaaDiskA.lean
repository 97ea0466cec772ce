/-
  Scripts of disk acts: how the argument is opened, what an act does to the bytes.
-/
import Derived.Test.YtjhghcdofhpcgaaRow
import Derived.Test.YtjhghcdofhpcgaaDiskR
import Derived.Test.YtjhghcdofhpcgaaDiskLaws
import Derived.Test.YtjhghcdofhpcgaaMake
import Derived.Laws.BitsAllLaws
namespace Go.Proofs.Ytjhghcdofhpcgaa
open Go.ChangeShapes Go.WideShapes Go.ChangeAt Go.RowKit
set_option linter.unusedVariables false

/-- An act: which call, a number, bytes. -/
structure DAct where
  which : Int
  n : Int
  A : Option Addr
  c : Nat
  b : List UInt8
def DAct.cells (a : DAct) : List Value := [.int .i64 a.which, .int .i64 a.n, .slice a.A a.b.length a.c]
structure DAct.ok (w : World) (a : DAct) : Prop where
  nil_ : a.A = none → a.b.length = 0
  room : a.b.length ≤ a.c
  most : a.c ≤ maxLen
  rd : Rd w w.heap.size a.A (a.b.map bv)
  whichLo : -9223372036854775808 ≤ a.which
  whichHi : a.which ≤ 9223372036854775807
  nLo : -9223372036854775808 ≤ a.n
  nHi : a.n ≤ 9223372036854775807
def DActOk (w : World) (cs : List Value) : Prop := ∃ a : DAct, cs = a.cells ∧ a.ok w
def In_acts (w : World) (v : Value) : Prop := ∃ A len cap xs, v = .slice A len cap ∧ Elems w 3 (DActOk w) A len cap xs

theorem IsRow.opens {w : World} {a : Option Addr} {len cap : Nat} {zs : List Int} (h : IsRow .u8 w a len cap zs) :
    ∃ l : List UInt8, l.length = len ∧ len ≤ cap ∧ cap ≤ maxLen ∧ (a = none → len = 0) ∧ Rd w w.heap.size a (l.map bv) := by
  obtain ⟨l, h1, h2, h3, h4, h5⟩ := h.open_
  obtain ⟨_, _, _, _, _, h6, _⟩ := h.bytes
  exact ⟨l, h1, h3, h6, h4, h5⟩

theorem in_acts {H : Type} {enc : TypeId × Value → H} {W : World} {b0 : Nat} {v : Value} {d : DataW H} {p : List MemPlace} {X : Prop} (hv : Value.okWide Try.prog W .any b0 33 v)
    (h : DataW.Trod enc Try.prog W 0 (fun _ => true) true 33 v d p) (_ : X) : In_acts W v := by
  obtain ⟨A, len, cap, xs, rfl, he⟩ := open_elems Try.underlying33 3 (by kernel_rfl) hv h (DActOk W) (fun n cs y hl ht => by
    obtain ⟨m, hf⟩ := open_fields Try.underlying39 (by kernel_rfl) hl ht
    obtain ⟨c0, z0, g0, t0⟩ := hf 0 _ rfl
    obtain ⟨c1, z1, g1, t1⟩ := hf 1 _ rfl
    obtain ⟨c2, z2, g2, t2⟩ := hf 2 _ rfl
    obtain ⟨n0, e0, _, r0⟩ := DataW.trod_int Try.underlying3 t0
    obtain ⟨n1, e1, _, r1⟩ := DataW.trod_int Try.underlying3 t1
    obtain ⟨a, len, cap, zs, rfl, hrow⟩ := open_isRow Try.underlying22 Try.underlying5 (by kernel_rfl) t2
    simp at e0 e1
    subst e0 e1
    obtain ⟨l, h1, h2, h3, h4, h5⟩ := hrow.opens
    have b0 := bounds_i64 r0
    have b1 := bounds_i64 r1
    refine ⟨⟨n0, n1, a, cap, l⟩, ?_, ⟨by rw [h1]; exact h4, by rw [h1]; exact h2, h3, h5, b0.1, b0.2, b1.1, b1.2⟩⟩
    match cs, hl with
    | [x0, x1, x2], _ =>
      simp at g0 g1 g2
      subst g0 g1 g2
      simp [DAct.cells, h1])
  exact ⟨A, len, cap, xs, rfl, he⟩

/-- The number of an act: as it is, or near the disk's length. -/
def actNum (a : DAct) (len : Nat) : Int := if bits .and .i64 a.which 8 = 0 then a.n else -1 + a.n % ((len : Int) + 1 - -1 + 1)
/-- What an act leaves. -/
def actTo (a : DAct) (xs : List UInt8) (k : Nat) : List UInt8 × Nat :=
  if a.which % 8 ≤ 3 then (xs ++ a.b, k)
  else if a.which % 8 = 4 then (xs, xs.length)
  else if a.which % 8 = 5 then (if 0 ≤ actNum a xs.length ∧ actNum a xs.length ≤ xs.length then (xs.take (actNum a xs.length).toNat, min k (actNum a xs.length).toNat) else (xs, k))
  else (xs.take (crashN xs.length k (actNum a xs.length)), crashN xs.length k (actNum a xs.length))
theorem actTo_len (a : DAct) (xs : List UInt8) (k : Nat) : (actTo a xs k).1.length ≤ xs.length + a.b.length := by
  unfold actTo
  split
  · simp
  · split
    · simp
    · split
      · split
        · simp only [List.length_take]; omega
        · simp
      · simp only [List.length_take]; omega

/-- Both disks with the same bytes, in blocks of F. -/
def TwoAt (w : World) (F : Nat → Prop) (d r : Nat) (xs : List UInt8) (k : Nat) : Prop :=
  ∃ F1 F2, DskAt TDisk w F1 d xs k ∧ DskAt TRDisk w F2 r xs k ∧ (∀ i, F1 i → ¬ F2 i) ∧ (∀ i, F1 i → F i) ∧ (∀ i, F2 i → F i) ∧ ∀ i, F i → i < w.heap.size
def TwoTo (w : World) (F : Nat → Prop) (d r : Nat) (s : List UInt8 × Nat) (w' : World) : Prop :=
  ∃ F', TwoAt w' F' d r s.1 s.2 ∧ (∀ i, F' i → F i ∨ w.heap.size ≤ i) ∧ Fr F w w'

theorem TwoAt.fr {w w' : World} {F G : Nat → Prop} {d r : Nat} {xs : List UInt8} {k : Nat} (h : TwoAt w F d r xs k) (hf : Fr G w w') (hd : ∀ i, F i → ¬ G i) : TwoAt w' F d r xs k := by
  obtain ⟨F1, F2, h1, h2, h3, h4, h5, h6⟩ := h
  exact ⟨F1, F2, h1.fr hf (fun i hi => hd i (h4 i hi)), h2.fr hf (fun i hi => hd i (h5 i hi)), h3, h4, h5, fun i hi => Nat.lt_of_lt_of_le (h6 i hi) hf.size⟩
theorem TwoAt.frNo {w w' : World} {F : Nat → Prop} {d r : Nat} {xs : List UInt8} {k : Nat} (h : TwoAt w F d r xs k) (hf : Fr No w w') : TwoAt w' F d r xs k := h.fr hf fun _ _ hi => hi
theorem TwoAt.lt {w : World} {F : Nat → Prop} {d r : Nat} {xs : List UInt8} {k : Nat} (h : TwoAt w F d r xs k) : ∀ i, F i → i < w.heap.size := by
  obtain ⟨F1, F2, h1, h2, h3, h4, h5, h6⟩ := h
  exact h6

/-- The first disk has turned, then the second. -/
theorem two_step {w w1 w2 : World} {F F1 F2 : Nat → Prop} {d r : Nat} {xs : List UInt8} {k : Nat} (hd : ∀ i, F1 i → ¬ F2 i) (hF1 : ∀ i, F1 i → F i) (hF2 : ∀ i, F2 i → F i) (hl : ∀ i, F i → i < w.heap.size)
    (h1 : DskTo TDisk w F1 d xs k w1) (h2 : DskTo TRDisk w1 F2 r xs k w2) : TwoTo w F d r (xs, k) w2 := by
  obtain ⟨G1, g1, g2, g3⟩ := h1
  obtain ⟨G2, k1, k2, k3⟩ := h2
  have hlt1 := g1.lt
  have hsep : ∀ i, G1 i → ¬ F2 i := by
    intro i hi hf
    rcases g2 i hi with h | h
    · exact hd i h hf
    · have := hl i (hF2 i hf); omega
  have hsep2 : ∀ i, G1 i → ¬ G2 i := by
    intro i hi hg
    rcases k2 i hg with h | h
    · exact hsep i hi h
    · have := hlt1 i hi; omega
  have hs1 := g3.size
  refine ⟨fun i => G1 i ∨ G2 i, ⟨G1, G2, g1.fr k3 hsep, k1, hsep2, fun i hi => .inl hi, fun i hi => .inr hi, fun i hi => ?_⟩, fun i hi => ?_, ?_⟩
  · rcases hi with hi | hi
    · exact Nat.lt_of_lt_of_le (hlt1 i hi) k3.size
    · exact k1.lt i hi
  · rcases hi with hi | hi
    · rcases g2 i hi with h | h
      · exact .inl (hF1 i h)
      · exact .inr h
    · rcases k2 i hi with h | h
      · exact .inl (hF2 i h)
      · exact .inr (by omega)
  · exact (g3.mono hF1).trans k3 fun i hi => .inl (hF2 i hi)
end Go.Proofs.Ytjhghcdofhpcgaa
