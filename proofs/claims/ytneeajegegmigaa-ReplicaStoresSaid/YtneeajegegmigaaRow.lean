/-
  Slices whose elements have several cells: how an argument is opened, how an element is read.
-/
import Derived.Test.YtneeajegegmigaaFr
import Derived.Deep.Slices
import Derived.Deep.Fields
import Derived.ChangeSame
namespace Go.Proofs.Ytneeajegegmigaa
open Go.ChangeShapes Go.WideShapes Go.ChangeAt Go.RowKit
set_option linter.unusedVariables false

/-- A slice of elements of 'size' cells each, every one of which is as R says. -/
structure Elems (w : World) (size : Nat) (R : List Value → Prop) (A : Option Addr) (len cap : Nat) (xs : List (List Value)) : Prop where
  count : xs.length = len
  room : len ≤ cap
  most : cap ≤ maxLen
  nil_ : A = none → len = 0
  each : ∀ x ∈ xs, x.length = size ∧ R x
  reads : Rd w w.heap.size A xs.flatten

theorem addr_add (b off j : Nat) : (⟨b, off, none⟩ : Addr).add j = ⟨b, off + j, none⟩ := by unfold Addr.add; split <;> simp_all

theorem rd_of_cells {w : World} {a : Addr} {xs : List Value} (h : ∀ j, (hj : j < xs.length) → w.cell? (a.add j) = some xs[j]) : Rd w w.heap.size (some a) xs := by
  by_cases h0 : xs.length = 0
  · exact .inl (List.length_eq_zero_iff.1 h0)
  · obtain ⟨b, off, spot⟩ := a
    have hc0 := h 0 (by omega)
    have hspot : spot = none := by simpa [Addr.add] using World.cell?_spot hc0
    subst hspot
    refine .inr ⟨b, off, rfl, ?_, fun j hj => by rw [← addr_add]; exact h j hj⟩
    rw [addr_add] at hc0
    unfold World.cell? at hc0
    rcases Nat.lt_or_ge b w.heap.size with hlt | hge
    · exact hlt
    · simp [Array.getElem?_eq_none hge] at hc0

theorem flatten_get {xs : List (List Value)} {size : Nat} (h : ∀ x ∈ xs, x.length = size) (i j : Nat) (hi : i < xs.length) (hj : j < size) : xs.flatten[i * size + j]? = (xs[i])[j]? := by
  induction xs generalizing i with
  | nil => simp at hi
  | cons x xs ih =>
    have hx := h x (by simp)
    rcases i with _ | i
    · rw [List.flatten_cons, Nat.zero_mul, Nat.zero_add, List.getElem?_append_left (by omega)]
      rfl
    · rw [List.flatten_cons, List.getElem?_append_right (by rw [hx, Nat.succ_mul]; omega), hx]
      rw [show (i + 1) * size + j - size = i * size + j from by rw [Nat.succ_mul]; omega]
      simpa using ih (fun y hy => h y (by simp [hy])) i (by simpa using hi)
theorem flatten_len {xs : List (List Value)} {size : Nat} (h : ∀ x ∈ xs, x.length = size) : xs.flatten.length = xs.length * size := by
  induction xs with
  | nil => simp
  | cons x xs ih => rw [List.flatten_cons, List.length_append, h x (by simp), ih (fun y hy => h y (by simp [hy])), List.length_cons, Nat.succ_mul]; omega

section
variable {H : Type} {enc : TypeId × Value → H} {P : Program} {w : World} {base : Nat} {held : Bool}
theorem open_elems {t e : TypeId} {r : Reach} {b0 : Nat} {v : Value} {d : DataW H} {p : List MemPlace} (ht : P.underlying t = some (.slice e)) (size : Nat) (hC : P.cellsOf e = size) (hv : Value.okWide P w r b0 t v)
    (h : DataW.Trod enc P w base (fun _ => true) held t v d p) (R : List Value → Prop) (hR : ∀ (n : Nat) (cs : List Value) (y : DataW H × List MemPlace), cs.length = size → DataW.trod enc P w base (fun _ => true) held n e cs = some y → R cs) :
    ∃ A len cap xs, v = .slice A len cap ∧ Elems w size R A len cap xs := by
  obtain ⟨A, len, cap, rfl⟩ := okWide_slice ht hv
  obtain ⟨fuel, hf⟩ := h
  simp only [Value.cells] at hf
  rcases Go.Deep.open_slice ht hf with ⟨h0, _⟩ | ⟨a, len', cap', m, n, D, Pl, hcs, _, hl, hm, hmm, _, hi⟩
  · simp at h0
    obtain ⟨rfl, rfl, rfl⟩ := h0
    exact ⟨none, 0, 0, [], rfl, rfl, Nat.le_refl _, Nat.zero_le _, fun _ => rfl, fun x hx => (by cases hx), .inl rfl⟩
  · simp at hcs
    obtain ⟨rfl, rfl, rfl⟩ := hcs
    simp only [if_true] at hmm
    have hmm' := hmm.symm
    subst hmm'
    rw [hC] at hi
    have hch : ∀ i : Nat, ∃ cs : List Value, i < cap → cs.length = size ∧ R cs ∧ ∀ j, j < size → w.cell? ((a.add (i * size)).add j) = cs[j]? := by
      intro i
      by_cases hic : i < cap
      · obtain ⟨cs', h1, h2⟩ := hi i hic
        obtain ⟨_, h3, h4⟩ := World.cells?_some h1
        exact ⟨cs', fun _ => ⟨h3, hR n cs' _ h3 h2, h4⟩⟩
      · exact ⟨[], fun h => absurd h hic⟩
    let X : Nat → List Value := fun i => Classical.choose (hch i)
    have hX : ∀ i, i < cap → (X i).length = size ∧ R (X i) ∧ ∀ j, j < size → w.cell? ((a.add (i * size)).add j) = (X i)[j]? := fun i hic => Classical.choose_spec (hch i) hic
    have hsz : ∀ x ∈ (List.range len).map X, x.length = size ∧ R x := by
      intro x hx
      obtain ⟨i, hi1, rfl⟩ := List.mem_map.1 hx
      have := hX i (by have := List.mem_range.1 hi1; omega)
      exact ⟨this.1, this.2.1⟩
    refine ⟨some a, len, cap, (List.range len).map X, rfl, by simp, hl, hm, (fun h => by cases h), hsz, ?_⟩
    apply rd_of_cells
    intro j hj
    rw [flatten_len fun x hx => (hsz x hx).1] at hj
    simp only [List.length_map, List.length_range] at hj
    rcases Nat.eq_zero_or_pos size with h0 | h0
    · subst h0; omega
    · have hdiv : j / size < len := Nat.div_lt_of_lt_mul (by rw [Nat.mul_comm]; exact hj)
      have hmod : j % size < size := Nat.mod_lt _ h0
      have hjj : j / size * size + j % size = j := by rw [Nat.mul_comm]; exact Nat.div_add_mod j size
      have hg := flatten_get (fun x hx => (hsz x hx).1) (j / size) (j % size) (by simpa using hdiv) hmod
      rw [hjj] at hg
      have h1 := (hX (j / size) (by omega)).2.2 (j % size) hmod
      rw [Go.Deep.add_add, hjj] at h1
      rw [h1, ← List.getElem?_eq_getElem, hg]
      simp
end

section
variable {w w' : World} {size : Nat} {R : List Value → Prop} {A : Option Addr} {len cap : Nat} {xs : List (List Value)}
/-- The cells of element i. -/
theorem Elems.at_ (h : Elems w size R A len cap xs) {i : Nat} (hi : i < len) (hs : 0 < size) :
    ∃ b off x, A = some ⟨b, off, none⟩ ∧ b < w.heap.size ∧ xs[i]? = some x ∧ x.length = size ∧ R x ∧ ∀ j, j < size → w.cell? ⟨b, off + (i * size + j), none⟩ = x[j]? := by
  have hix : i < xs.length := by rw [h.count]; exact hi
  have hfl := flatten_len fun x hx => (h.each x hx).1
  have hlt : ∀ j, j < size → i * size + j < xs.flatten.length := by
    intro j hj
    rw [hfl]
    have : i * size + size ≤ xs.length * size := by rw [← Nat.succ_mul]; exact Nat.mul_le_mul_right _ hix
    omega
  obtain ⟨b, off, hA, hb, hc⟩ := h.reads.at_ (by have := hlt 0 hs; omega)
  have hx := h.each _ (List.getElem_mem hix)
  refine ⟨b, off, xs[i], hA, hb, List.getElem?_eq_getElem hix, hx.1, hx.2, fun j hj => ?_⟩
  rw [hc _ (hlt j hj), ← List.getElem?_eq_getElem, flatten_get (fun x hx => (h.each x hx).1) i j hix hj]
end

section
variable {H : Type} {enc : TypeId × Value → H} {P : Program} {w : World} {base : Nat} {spare : Nat → Bool} {held : Bool}
/-- The fields of a structure of one-cell fields. -/
theorem open_fields {e : TypeId} {fs : Array Field} {n : Nat} {cs : List Value} {y : DataW H × List MemPlace} (he : P.underlying e = some (.struct fs)) (hone : Go.Deep.oneCellFields P fs = true) (hl : cs.length = fs.size)
    (h : DataW.trod enc P w base spare held n e cs = some y) : ∃ m, ∀ (i : Nat) (f : Field), fs[i]? = some f → ∃ c z, cs[i]? = some c ∧ DataW.trod enc P w base spare held m f.type [c] = some z := by
  obtain ⟨ys, m, _, _, _, hyl, hg⟩ := DataW.trod_struct he h
  refine ⟨m, fun i f hf => ?_⟩
  obtain ⟨h1, h2⟩ := Go.Deep.hone_of hone i f hf
  have hi : i < fs.size := (Array.getElem?_eq_some_iff.1 hf).1
  have h3 := hg i f hf
  rw [h1, h2] at h3
  have h4 : (cs.drop i).take 1 = [cs[i]'(by omega)] := by
    rw [List.drop_eq_getElem_cons (by omega)]
    rfl
  rw [h4] at h3
  have h5 : ys[i]? = some (ys[i]'(by omega)) := List.getElem?_eq_getElem (by omega)
  exact ⟨_, _, List.getElem?_eq_getElem (by omega), h3.trans h5⟩

/-- A slice of integers out of one cell. -/
theorem open_isRow {t e : TypeId} {k : IntKind} {n : Nat} {c : Value} {z : DataW H × List MemPlace} (ht : P.underlying t = some (.slice e)) (he : P.underlying e = some (.int k)) (hce : P.cellsOf e = 1)
    (h : DataW.trod enc P w base (fun _ => true) held n t [c] = some z) : ∃ a len cap zs, c = .slice a len cap ∧ IsRow k w a len cap zs := by
  rcases open_ints ht he hce h with ⟨hcs, _⟩ | ⟨x, l, cp, zs, hcs, _, hl, hm, hz, hx, hcell, hwz⟩
  · simp at hcs
    exact ⟨none, 0, 0, [], hcs, .inl ⟨rfl, rfl, rfl, rfl⟩⟩
  · simp at hcs
    exact ⟨some x, l, cp, zs, hcs, .inr ⟨_, rfl, hl, hm, by simpa using hz, hcell, hwz⟩⟩
end
end Go.Proofs.Ytneeajegegmigaa
