/-
  Several texts in one: Row, EntE.
-/
import Derived.Test.YtanhbebikcoliaaDoorG2
import Derived.Deep.Slices
import Derived.Deep.Fields
import Derived.ChangeSame
import Derived.Test.YtanhbebikcoliaaDoorG1
/- Slices whose elements have several cells: how an argument is opened, how an element is read. -/
namespace Go.Proofs.YtanhbebikcoliaaDoor
open Go.ChangeShapes Go.WideShapes Go.ChangeAt Go.RowKit
set_option linter.unusedVariables false

/-- A slice of elements of 'size' cells each, every one of which is as R says. -/
structure Elems (w : World) (size : Nat) (R : List Value → Prop) (A : Option Addr) (len cap : Nat) (xs : List (List Value)) : Prop where
  count : xs.length = len
  room : len ≤ cap
  most : cap ≤ maxLen
  nil_ : A = none → len = 0
  each : ∀ x ∈ xs, x.length = size ∧ R x
  reads : Rd w w.heap.size A xs.flatten

theorem addr_add (b off j : Nat) : (⟨b, off, none⟩ : Addr).add j = ⟨b, off + j, none⟩ := by unfold Addr.add; split <;> simp_all

theorem rd_of_cells {w : World} {a : Addr} {xs : List Value} (h : ∀ j, (hj : j < xs.length) → w.cell? (a.add j) = some xs[j]) : Rd w w.heap.size (some a) xs := by
  by_cases h0 : xs.length = 0
  · exact .inl (List.length_eq_zero_iff.1 h0)
  · obtain ⟨b, off, spot⟩ := a
    have hc0 := h 0 (by omega)
    have hspot : spot = none := by simpa [Addr.add] using World.cell?_spot hc0
    subst hspot
    refine .inr ⟨b, off, rfl, ?_, fun j hj => by rw [← addr_add]; exact h j hj⟩
    rw [addr_add] at hc0
    unfold World.cell? at hc0
    rcases Nat.lt_or_ge b w.heap.size with hlt | hge
    · exact hlt
    · simp [Array.getElem?_eq_none hge] at hc0

theorem flatten_get {xs : List (List Value)} {size : Nat} (h : ∀ x ∈ xs, x.length = size) (i j : Nat) (hi : i < xs.length) (hj : j < size) : xs.flatten[i * size + j]? = (xs[i])[j]? := by
  induction xs generalizing i with
  | nil => simp at hi
  | cons x xs ih =>
    have hx := h x (by simp)
    rcases i with _ | i
    · rw [List.flatten_cons, Nat.zero_mul, Nat.zero_add, List.getElem?_append_left (by omega)]
      rfl
    · rw [List.flatten_cons, List.getElem?_append_right (by rw [hx, Nat.succ_mul]; omega), hx]
      rw [show (i + 1) * size + j - size = i * size + j from by rw [Nat.succ_mul]; omega]
      simpa using ih (fun y hy => h y (by simp [hy])) i (by simpa using hi)
theorem flatten_len {xs : List (List Value)} {size : Nat} (h : ∀ x ∈ xs, x.length = size) : xs.flatten.length = xs.length * size := by
  induction xs with
  | nil => simp
  | cons x xs ih => rw [List.flatten_cons, List.length_append, h x (by simp), ih (fun y hy => h y (by simp [hy])), List.length_cons, Nat.succ_mul]; omega

section
variable {H : Type} {enc : TypeId × Value → H} {P : Program} {w : World} {base : Nat} {held : Bool}
theorem open_elems {t e : TypeId} {r : Reach} {b0 : Nat} {v : Value} {d : DataW H} {p : List MemPlace} (ht : P.underlying t = some (.slice e)) (size : Nat) (hC : P.cellsOf e = size) (hv : Value.okWide P w r b0 t v)
    (h : DataW.Trod enc P w base (fun _ => true) held t v d p) (R : List Value → Prop) (hR : ∀ (n : Nat) (cs : List Value) (y : DataW H × List MemPlace), cs.length = size → DataW.trod enc P w base (fun _ => true) held n e cs = some y → R cs) :
    ∃ A len cap xs, v = .slice A len cap ∧ Elems w size R A len cap xs := by
  obtain ⟨A, len, cap, rfl⟩ := okWide_slice ht hv
  obtain ⟨fuel, hf⟩ := h
  simp only [Value.cells] at hf
  rcases Go.Deep.open_slice ht hf with ⟨h0, _⟩ | ⟨a, len', cap', m, n, D, Pl, hcs, _, hl, hm, hmm, _, hi⟩
  · simp at h0
    obtain ⟨rfl, rfl, rfl⟩ := h0
    exact ⟨none, 0, 0, [], rfl, rfl, Nat.le_refl _, Nat.zero_le _, fun _ => rfl, fun x hx => (by cases hx), .inl rfl⟩
  · simp at hcs
    obtain ⟨rfl, rfl, rfl⟩ := hcs
    simp only [if_true] at hmm
    have hmm' := hmm.symm
    subst hmm'
    rw [hC] at hi
    have hch : ∀ i : Nat, ∃ cs : List Value, i < cap → cs.length = size ∧ R cs ∧ ∀ j, j < size → w.cell? ((a.add (i * size)).add j) = cs[j]? := by
      intro i
      by_cases hic : i < cap
      · obtain ⟨cs', h1, h2⟩ := hi i hic
        obtain ⟨_, h3, h4⟩ := World.cells?_some h1
        exact ⟨cs', fun _ => ⟨h3, hR n cs' _ h3 h2, h4⟩⟩
      · exact ⟨[], fun h => absurd h hic⟩
    let X : Nat → List Value := fun i => Classical.choose (hch i)
    have hX : ∀ i, i < cap → (X i).length = size ∧ R (X i) ∧ ∀ j, j < size → w.cell? ((a.add (i * size)).add j) = (X i)[j]? := fun i hic => Classical.choose_spec (hch i) hic
    have hsz : ∀ x ∈ (List.range len).map X, x.length = size ∧ R x := by
      intro x hx
      obtain ⟨i, hi1, rfl⟩ := List.mem_map.1 hx
      have := hX i (by have := List.mem_range.1 hi1; omega)
      exact ⟨this.1, this.2.1⟩
    refine ⟨some a, len, cap, (List.range len).map X, rfl, by simp, hl, hm, (fun h => by cases h), hsz, ?_⟩
    apply rd_of_cells
    intro j hj
    rw [flatten_len fun x hx => (hsz x hx).1] at hj
    simp only [List.length_map, List.length_range] at hj
    rcases Nat.eq_zero_or_pos size with h0 | h0
    · subst h0; omega
    · have hdiv : j / size < len := Nat.div_lt_of_lt_mul (by rw [Nat.mul_comm]; exact hj)
      have hmod : j % size < size := Nat.mod_lt _ h0
      have hjj : j / size * size + j % size = j := by rw [Nat.mul_comm]; exact Nat.div_add_mod j size
      have hg := flatten_get (fun x hx => (hsz x hx).1) (j / size) (j % size) (by simpa using hdiv) hmod
      rw [hjj] at hg
      have h1 := (hX (j / size) (by omega)).2.2 (j % size) hmod
      rw [Go.Deep.add_add, hjj] at h1
      rw [h1, ← List.getElem?_eq_getElem, hg]
      simp
end

section
variable {w w' : World} {size : Nat} {R : List Value → Prop} {A : Option Addr} {len cap : Nat} {xs : List (List Value)}
/-- The cells of element i. -/
theorem Elems.at_ (h : Elems w size R A len cap xs) {i : Nat} (hi : i < len) (hs : 0 < size) :
    ∃ b off x, A = some ⟨b, off, none⟩ ∧ b < w.heap.size ∧ xs[i]? = some x ∧ x.length = size ∧ R x ∧ ∀ j, j < size → w.cell? ⟨b, off + (i * size + j), none⟩ = x[j]? := by
  have hix : i < xs.length := by rw [h.count]; exact hi
  have hfl := flatten_len fun x hx => (h.each x hx).1
  have hlt : ∀ j, j < size → i * size + j < xs.flatten.length := by
    intro j hj
    rw [hfl]
    have : i * size + size ≤ xs.length * size := by rw [← Nat.succ_mul]; exact Nat.mul_le_mul_right _ hix
    omega
  obtain ⟨b, off, hA, hb, hc⟩ := h.reads.at_ (by have := hlt 0 hs; omega)
  have hx := h.each _ (List.getElem_mem hix)
  refine ⟨b, off, xs[i], hA, hb, List.getElem?_eq_getElem hix, hx.1, hx.2, fun j hj => ?_⟩
  rw [hc _ (hlt j hj), ← List.getElem?_eq_getElem, flatten_get (fun x hx => (h.each x hx).1) i j hix hj]
end

section
variable {H : Type} {enc : TypeId × Value → H} {P : Program} {w : World} {base : Nat} {spare : Nat → Bool} {held : Bool}
/-- The fields of a structure of one-cell fields. -/
theorem open_fields {e : TypeId} {fs : Array Field} {n : Nat} {cs : List Value} {y : DataW H × List MemPlace} (he : P.underlying e = some (.struct fs)) (hone : Go.Deep.oneCellFields P fs = true) (hl : cs.length = fs.size)
    (h : DataW.trod enc P w base spare held n e cs = some y) : ∃ m, ∀ (i : Nat) (f : Field), fs[i]? = some f → ∃ c z, cs[i]? = some c ∧ DataW.trod enc P w base spare held m f.type [c] = some z := by
  obtain ⟨ys, m, _, _, _, hyl, hg⟩ := DataW.trod_struct he h
  refine ⟨m, fun i f hf => ?_⟩
  obtain ⟨h1, h2⟩ := Go.Deep.hone_of hone i f hf
  have hi : i < fs.size := (Array.getElem?_eq_some_iff.1 hf).1
  have h3 := hg i f hf
  rw [h1, h2] at h3
  have h4 : (cs.drop i).take 1 = [cs[i]'(by omega)] := by
    rw [List.drop_eq_getElem_cons (by omega)]
    rfl
  rw [h4] at h3
  have h5 : ys[i]? = some (ys[i]'(by omega)) := List.getElem?_eq_getElem (by omega)
  exact ⟨_, _, List.getElem?_eq_getElem (by omega), h3.trans h5⟩

/-- A slice of integers out of one cell. -/
theorem open_isRow {t e : TypeId} {k : IntKind} {n : Nat} {c : Value} {z : DataW H × List MemPlace} (ht : P.underlying t = some (.slice e)) (he : P.underlying e = some (.int k)) (hce : P.cellsOf e = 1)
    (h : DataW.trod enc P w base (fun _ => true) held n t [c] = some z) : ∃ a len cap zs, c = .slice a len cap ∧ IsRow k w a len cap zs := by
  rcases open_ints ht he hce h with ⟨hcs, _⟩ | ⟨x, l, cp, zs, hcs, _, hl, hm, hz, hx, hcell, hwz⟩
  · simp at hcs
    exact ⟨none, 0, 0, [], hcs, .inl ⟨rfl, rfl, rfl, rfl⟩⟩
  · simp at hcs
    exact ⟨some x, l, cp, zs, hcs, .inr ⟨_, rfl, hl, hm, by simpa using hz, hcell, hwz⟩⟩
end
end Go.Proofs.YtanhbebikcoliaaDoor
/- Equality of entries, entries that came in, entries with one field changed. -/
namespace Go.Proofs.YtanhbebikcoliaaDoor
open Go.ChangeShapes Go.WideShapes Go.ChangeAt Go.RowKit
set_option linter.unusedVariables false

theorem int_equalIn (d : Nat) (a b : Int) (W : World) : (Op.equalIn (d + 1) 3 (.int .i64 a) (.int .i64 b)).run Tryd.prog W = .ok (a == b) W := by
  simp [Op.equalIn, run_underlying Tryd.underlying3]

theorem ent_equal (e f : En) (d : Nat) (W : World) : (Op.equalIn (d + 1 + 1) TEnt e.v f.v).run Tryd.prog W = .ok (decide (e = f)) W := by
  obtain ⟨k, tick, te, ce, ot, ep, fr, un, n⟩ := e
  obtain ⟨k', tick', te', ce', ot', ep', fr', un', n'⟩ := f
  have hp : Tryd.prog.stoodInHeld TEnt = false := by kernel_rfl
  rw [Op.equalIn]
  simp only [En.v, Sem.run_bind, run_underlying Tryd.underlying24, Result.andThen_ok, run_program, hp, Bool.false_eq_true, if_false]
  have pa0 : ∀ W : World, (part 3 #[.int .i64 k, .int .i64 tick, .int .i64 te, .int .i64 ce, .int .i64 ot, .int .i64 ep, .int .i64 fr, .int .i64 un, .int .i64 n] 0).run Tryd.prog W = .ok (.int .i64 k) W := fun _ => by kernel_rfl
  have pb0 : ∀ W : World, (part 3 #[.int .i64 k', .int .i64 tick', .int .i64 te', .int .i64 ce', .int .i64 ot', .int .i64 ep', .int .i64 fr', .int .i64 un', .int .i64 n'] 0).run Tryd.prog W = .ok (.int .i64 k') W := fun _ => by kernel_rfl
  have pa1 : ∀ W : World, (part 3 #[.int .i64 k, .int .i64 tick, .int .i64 te, .int .i64 ce, .int .i64 ot, .int .i64 ep, .int .i64 fr, .int .i64 un, .int .i64 n] 1).run Tryd.prog W = .ok (.int .i64 tick) W := fun _ => by kernel_rfl
  have pb1 : ∀ W : World, (part 3 #[.int .i64 k', .int .i64 tick', .int .i64 te', .int .i64 ce', .int .i64 ot', .int .i64 ep', .int .i64 fr', .int .i64 un', .int .i64 n'] 1).run Tryd.prog W = .ok (.int .i64 tick') W := fun _ => by kernel_rfl
  have pa2 : ∀ W : World, (part 3 #[.int .i64 k, .int .i64 tick, .int .i64 te, .int .i64 ce, .int .i64 ot, .int .i64 ep, .int .i64 fr, .int .i64 un, .int .i64 n] 2).run Tryd.prog W = .ok (.int .i64 te) W := fun _ => by kernel_rfl
  have pb2 : ∀ W : World, (part 3 #[.int .i64 k', .int .i64 tick', .int .i64 te', .int .i64 ce', .int .i64 ot', .int .i64 ep', .int .i64 fr', .int .i64 un', .int .i64 n'] 2).run Tryd.prog W = .ok (.int .i64 te') W := fun _ => by kernel_rfl
  have pa3 : ∀ W : World, (part 3 #[.int .i64 k, .int .i64 tick, .int .i64 te, .int .i64 ce, .int .i64 ot, .int .i64 ep, .int .i64 fr, .int .i64 un, .int .i64 n] 3).run Tryd.prog W = .ok (.int .i64 ce) W := fun _ => by kernel_rfl
  have pb3 : ∀ W : World, (part 3 #[.int .i64 k', .int .i64 tick', .int .i64 te', .int .i64 ce', .int .i64 ot', .int .i64 ep', .int .i64 fr', .int .i64 un', .int .i64 n'] 3).run Tryd.prog W = .ok (.int .i64 ce') W := fun _ => by kernel_rfl
  have pa4 : ∀ W : World, (part 3 #[.int .i64 k, .int .i64 tick, .int .i64 te, .int .i64 ce, .int .i64 ot, .int .i64 ep, .int .i64 fr, .int .i64 un, .int .i64 n] 4).run Tryd.prog W = .ok (.int .i64 ot) W := fun _ => by kernel_rfl
  have pb4 : ∀ W : World, (part 3 #[.int .i64 k', .int .i64 tick', .int .i64 te', .int .i64 ce', .int .i64 ot', .int .i64 ep', .int .i64 fr', .int .i64 un', .int .i64 n'] 4).run Tryd.prog W = .ok (.int .i64 ot') W := fun _ => by kernel_rfl
  have pa5 : ∀ W : World, (part 3 #[.int .i64 k, .int .i64 tick, .int .i64 te, .int .i64 ce, .int .i64 ot, .int .i64 ep, .int .i64 fr, .int .i64 un, .int .i64 n] 5).run Tryd.prog W = .ok (.int .i64 ep) W := fun _ => by kernel_rfl
  have pb5 : ∀ W : World, (part 3 #[.int .i64 k', .int .i64 tick', .int .i64 te', .int .i64 ce', .int .i64 ot', .int .i64 ep', .int .i64 fr', .int .i64 un', .int .i64 n'] 5).run Tryd.prog W = .ok (.int .i64 ep') W := fun _ => by kernel_rfl
  have pa6 : ∀ W : World, (part 3 #[.int .i64 k, .int .i64 tick, .int .i64 te, .int .i64 ce, .int .i64 ot, .int .i64 ep, .int .i64 fr, .int .i64 un, .int .i64 n] 6).run Tryd.prog W = .ok (.int .i64 fr) W := fun _ => by kernel_rfl
  have pb6 : ∀ W : World, (part 3 #[.int .i64 k', .int .i64 tick', .int .i64 te', .int .i64 ce', .int .i64 ot', .int .i64 ep', .int .i64 fr', .int .i64 un', .int .i64 n'] 6).run Tryd.prog W = .ok (.int .i64 fr') W := fun _ => by kernel_rfl
  have pa7 : ∀ W : World, (part 3 #[.int .i64 k, .int .i64 tick, .int .i64 te, .int .i64 ce, .int .i64 ot, .int .i64 ep, .int .i64 fr, .int .i64 un, .int .i64 n] 7).run Tryd.prog W = .ok (.int .i64 un) W := fun _ => by kernel_rfl
  have pb7 : ∀ W : World, (part 3 #[.int .i64 k', .int .i64 tick', .int .i64 te', .int .i64 ce', .int .i64 ot', .int .i64 ep', .int .i64 fr', .int .i64 un', .int .i64 n'] 7).run Tryd.prog W = .ok (.int .i64 un') W := fun _ => by kernel_rfl
  have pa8 : ∀ W : World, (part 3 #[.int .i64 k, .int .i64 tick, .int .i64 te, .int .i64 ce, .int .i64 ot, .int .i64 ep, .int .i64 fr, .int .i64 un, .int .i64 n] 8).run Tryd.prog W = .ok (.int .i64 n) W := fun _ => by kernel_rfl
  have pb8 : ∀ W : World, (part 3 #[.int .i64 k', .int .i64 tick', .int .i64 te', .int .i64 ce', .int .i64 ot', .int .i64 ep', .int .i64 fr', .int .i64 un', .int .i64 n'] 8).run Tryd.prog W = .ok (.int .i64 n') W := fun _ => by kernel_rfl
  rw [← Array.forIn_toList]
  simp only [List.forIn_cons, List.forIn_nil, ne_eq, String.reduceEq, not_false_eq_true, if_true, Sem.run_bind, Result.andThen_ok, int_equalIn, pa0, pb0]
  by_cases h0 : k = k'
  case neg => simp [h0]
  subst h0
  simp only [beq_self_eq_true, Bool.not_true, Bool.false_eq_true, if_false, Sem.run_pure, Result.andThen_ok]
  simp only [Sem.run_bind, pa1, pb1, Result.andThen_ok, int_equalIn]
  by_cases h1 : tick = tick'
  case neg => simp [h1]
  subst h1
  simp only [beq_self_eq_true, Bool.not_true, Bool.false_eq_true, if_false, Sem.run_pure, Result.andThen_ok]
  simp only [Sem.run_bind, pa2, pb2, Result.andThen_ok, int_equalIn]
  by_cases h2 : te = te'
  case neg => simp [h2]
  subst h2
  simp only [beq_self_eq_true, Bool.not_true, Bool.false_eq_true, if_false, Sem.run_pure, Result.andThen_ok]
  simp only [Sem.run_bind, pa3, pb3, Result.andThen_ok, int_equalIn]
  by_cases h3 : ce = ce'
  case neg => simp [h3]
  subst h3
  simp only [beq_self_eq_true, Bool.not_true, Bool.false_eq_true, if_false, Sem.run_pure, Result.andThen_ok]
  simp only [Sem.run_bind, pa4, pb4, Result.andThen_ok, int_equalIn]
  by_cases h4 : ot = ot'
  case neg => simp [h4]
  subst h4
  simp only [beq_self_eq_true, Bool.not_true, Bool.false_eq_true, if_false, Sem.run_pure, Result.andThen_ok]
  simp only [Sem.run_bind, pa5, pb5, Result.andThen_ok, int_equalIn]
  by_cases h5 : ep = ep'
  case neg => simp [h5]
  subst h5
  simp only [beq_self_eq_true, Bool.not_true, Bool.false_eq_true, if_false, Sem.run_pure, Result.andThen_ok]
  simp only [Sem.run_bind, pa6, pb6, Result.andThen_ok, int_equalIn]
  by_cases h6 : fr = fr'
  case neg => simp [h6]
  subst h6
  simp only [beq_self_eq_true, Bool.not_true, Bool.false_eq_true, if_false, Sem.run_pure, Result.andThen_ok]
  simp only [Sem.run_bind, pa7, pb7, Result.andThen_ok, int_equalIn]
  by_cases h7 : un = un'
  case neg => simp [h7]
  subst h7
  simp only [beq_self_eq_true, Bool.not_true, Bool.false_eq_true, if_false, Sem.run_pure, Result.andThen_ok]
  simp only [Sem.run_bind, pa8, pb8, Result.andThen_ok, int_equalIn]
  by_cases h8 : n = n'
  case neg => simp [h8]
  subst h8
  simp only [beq_self_eq_true, Bool.not_true, Bool.false_eq_true, if_false, Sem.run_pure, Result.andThen_ok]
  simp
theorem ent_eql (e f : En) (W : World) : (binOp .eql TEnt e.v f.v).run Tryd.prog W = .ok (.bool (decide (e = f))) W := by
  have h := ent_equal e f 9998 W
  unfold En.v at *
  simp only [binOp]
  simp [Op.equal, Op.maxDepth, h]
theorem ent_guard (op : BinOp) (x y : Operand) (a b : Array Value) (W : World) : (eqGuard op TEnt x y (.agg a) (.agg b)).run Tryd.prog W = .ok () W := by
  have hm : Tryd.prog.eqGuardType Tryd.prog.depth TEnt = false := by kernel_rfl
  cases op <;> simp [eqGuard, run_program, hm]

/-- An entry that came in. -/
def In_ent (w : World) (v : Value) : Prop := ∃ e : En, e.ok ∧ v = e.v
set_option maxRecDepth 100000 in
theorem in_ent {H : Type} {enc : TypeId × Value → H} {W : World} {b0 : Nat} {v : Value} {d : DataW H} {p : List MemPlace} {X : Prop} (hv : Value.okWide Tryd.prog W .any b0 TEnt v)
    (h : DataW.Trod enc Tryd.prog W 0 (fun _ => true) true TEnt v d p) (_ : X) : In_ent W v := by
  obtain ⟨cs, rfl, hsz⟩ := okWide_struct Tryd.underlying24 hv
  have hl : cs.toList.length = 9 := by rw [Array.length_toList, hsz]; kernel_rfl
  obtain ⟨fuel, hf⟩ := h
  obtain ⟨m, hg⟩ := open_fields Tryd.underlying24 (by kernel_rfl) hl hf
  obtain ⟨x0, z0, g0, t0⟩ := hg 0 _ rfl
  obtain ⟨n0, e0, _, r0⟩ := DataW.trod_int Tryd.underlying3 t0
  have q0 := bounds_i64 r0
  obtain ⟨x1, z1, g1, t1⟩ := hg 1 _ rfl
  obtain ⟨n1, e1, _, r1⟩ := DataW.trod_int Tryd.underlying3 t1
  have q1 := bounds_i64 r1
  obtain ⟨x2, z2, g2, t2⟩ := hg 2 _ rfl
  obtain ⟨n2, e2, _, r2⟩ := DataW.trod_int Tryd.underlying3 t2
  have q2 := bounds_i64 r2
  obtain ⟨x3, z3, g3, t3⟩ := hg 3 _ rfl
  obtain ⟨n3, e3, _, r3⟩ := DataW.trod_int Tryd.underlying3 t3
  have q3 := bounds_i64 r3
  obtain ⟨x4, z4, g4, t4⟩ := hg 4 _ rfl
  obtain ⟨n4, e4, _, r4⟩ := DataW.trod_int Tryd.underlying3 t4
  have q4 := bounds_i64 r4
  obtain ⟨x5, z5, g5, t5⟩ := hg 5 _ rfl
  obtain ⟨n5, e5, _, r5⟩ := DataW.trod_int Tryd.underlying3 t5
  have q5 := bounds_i64 r5
  obtain ⟨x6, z6, g6, t6⟩ := hg 6 _ rfl
  obtain ⟨n6, e6, _, r6⟩ := DataW.trod_int Tryd.underlying3 t6
  have q6 := bounds_i64 r6
  obtain ⟨x7, z7, g7, t7⟩ := hg 7 _ rfl
  obtain ⟨n7, e7, _, r7⟩ := DataW.trod_int Tryd.underlying3 t7
  have q7 := bounds_i64 r7
  obtain ⟨x8, z8, g8, t8⟩ := hg 8 _ rfl
  obtain ⟨n8, e8, _, r8⟩ := DataW.trod_int Tryd.underlying3 t8
  have q8 := bounds_i64 r8
  simp at e0 e1 e2 e3 e4 e5 e6 e7 e8
  subst e0 e1 e2 e3 e4 e5 e6 e7 e8
  refine ⟨⟨n0, n1, n2, n3, n4, n5, n6, n7, n8⟩, ?_, ?_⟩
  · intro x hx
    simp only [En.l, List.mem_cons, List.not_mem_nil, or_false] at hx
    rcases hx with rfl | rfl | rfl | rfl | rfl | rfl | rfl | rfl | rfl
    all_goals assumption
  · obtain ⟨l⟩ := cs
    match l, hl with
    | [y0, y1, y2, y3, y4, y5, y6, y7, y8], _ =>
      simp at g0 g1 g2 g3 g4 g5 g6 g7 g8
      subst g0 g1 g2 g3 g4 g5 g6 g7 g8
      rfl

/-- An entry with one field changed. -/
def spoilN (e : En) (m b : Int) : En :=
  if m = 0 then { e with kind := b } else if m = 1 then { e with tick := b } else if m = 2 then { e with tenant := b } else if m = 3 then { e with cell := b } else if m = 4 then { e with other := b } else if m = 5 then { e with epoch := b } else if m = 6 then { e with from_ := b } else if m = 7 then { e with until_ := b } else { e with n := b }
set_option maxRecDepth 100000 in
theorem spoilN_ok (e : En) (m b : Int) (h : e.ok) (hb : -9223372036854775808 ≤ b ∧ b ≤ 9223372036854775807) : (spoilN e m b).ok := by
  obtain ⟨k, tick, te, ce, ot, ep, fr, un, n⟩ := e
  have h' : (-9223372036854775808 ≤ k ∧ k ≤ 9223372036854775807) ∧ (-9223372036854775808 ≤ tick ∧ tick ≤ 9223372036854775807) ∧ (-9223372036854775808 ≤ te ∧ te ≤ 9223372036854775807) ∧ (-9223372036854775808 ≤ ce ∧ ce ≤ 9223372036854775807) ∧ (-9223372036854775808 ≤ ot ∧ ot ≤ 9223372036854775807) ∧ (-9223372036854775808 ≤ ep ∧ ep ≤ 9223372036854775807) ∧ (-9223372036854775808 ≤ fr ∧ fr ≤ 9223372036854775807) ∧ (-9223372036854775808 ≤ un ∧ un ≤ 9223372036854775807) ∧ (-9223372036854775808 ≤ n ∧ n ≤ 9223372036854775807) := by simpa [En.ok, En.l] using h
  unfold spoilN
  repeat' split
  all_goals
    simp only [En.ok, En.l, List.mem_cons, List.not_mem_nil, or_false, forall_eq_or_imp, forall_eq]
    simp only [and_assoc] at h' hb ⊢
    omega

set_option maxRecDepth 100000 in
set_option maxHeartbeats 4000000 in
theorem spoilt_any (e : En) (which b : Int) (w : World) :
    Calls Tryd.prog 11 #[e.v, .int .i64 which, .int .i64 b] w fun r w' => r = .returned (spoilN e (which % 9) b).v ∧ Fr No w w' := by
  obtain ⟨k, tick, te, ce, ot, ep, fr, un, n⟩ := e
  unfold En.v
  have hm := fun W => mod_any which 9 W (by decide) (by decide)
  have h0 := Int.emod_nonneg which (b := 9) (by decide)
  have h9 := Int.emod_lt_of_pos which (b := 9) (by decide)
  revert hm h0 h9
  generalize which % 9 = m
  intro hm h0 h9
  have HM := Lib.hid hm
  clear hm
  have hcase : m = 0 ∨ m = 1 ∨ m = 2 ∨ m = 3 ∨ m = 4 ∨ m = 5 ∨ m = 6 ∨ m = 7 ∨ m = 8 := by omega
  rcases hcase with rfl | rfl | rfl | rfl | rfl | rfl | rfl | rfl | rfl
  all_goals
    go_enter Tryd.func11, Tryd.ntmps11
    go_wp2_with fail
    refine (HM.out _).mono ?_
    rintro e w1 ⟨rfl, rfl⟩
    go_wp2_with fail
    refine bodyPost_ret (v := .agg _) (by simp [results, Tryd.results11, go_sem]; simp [spoilN]) rfl ⟨rfl, ?_⟩
    exact ((Fr.refl _ _).alloc _).alloc _
end Go.Proofs.YtanhbebikcoliaaDoor
