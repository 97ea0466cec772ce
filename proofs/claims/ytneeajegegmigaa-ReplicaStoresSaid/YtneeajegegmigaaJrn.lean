/-
  The program's journal in memory; the contracts of its readers.
-/
import Derived.Test.YtneeajegegmigaaJrnP
import Derived.Test.YtneeajegegmigaaOwnN
import Derived.Test.YtneeajegegmigaaDiskR
namespace Go.Proofs.Ytneeajegegmigaa
open Go.ChangeShapes Go.WideShapes Go.ChangeAt Go.RowKit
set_option linter.unusedVariables false

abbrev TJ : TypeId := 78
abbrev TLg : TypeId := 48
abbrev lgZero : Lg := ⟨0, enZero⟩
def Lg.cells (x : Lg) : List Value := [.int .i64 x.term, .int .i64 x.e.kind, .int .i64 x.e.tick, .int .i64 x.e.tenant, .int .i64 x.e.cell, .int .i64 x.e.other, .int .i64 x.e.epoch, .int .i64 x.e.from_, .int .i64 x.e.until_, .int .i64 x.e.n]
def Lg.v (x : Lg) : Value := .agg #[.int .i64 x.term, .int .i64 x.e.kind, .int .i64 x.e.tick, .int .i64 x.e.tenant, .int .i64 x.e.cell, .int .i64 x.e.other, .int .i64 x.e.epoch, .int .i64 x.e.from_, .int .i64 x.e.until_, .int .i64 x.e.n]
def logV (l : List Lg) : List Value := l.flatMap Lg.cells
theorem logV_len (l : List Lg) : (logV l).length = l.length * 10 := by
  induction l with
  | nil => rfl
  | cons x l ih => simp only [logV, List.flatMap_cons, List.length_append, List.length_cons] at *; rw [ih, Nat.succ_mul]; simp [Lg.cells]; omega
theorem logV_snoc (l : List Lg) (x : Lg) : logV (l ++ [x]) = logV l ++ x.cells := by simp [logV]
theorem logV_get (l : List Lg) (i j : Nat) (x : Lg) (hx : l[i]? = some x) (hj : j < 10) : (logV l)[i * 10 + j]? = x.cells[j]? := by
  induction l generalizing i with
  | nil => simp at hx
  | cons y l ih =>
    have hl : y.cells.length = 10 := rfl
    have e1 : logV (y :: l) = y.cells ++ logV l := by simp [logV]
    rw [e1]
    rcases i with _ | i
    · simp only [List.getElem?_cons_zero, Option.some.injEq] at hx
      subst hx
      rw [Nat.zero_mul, Nat.zero_add, List.getElem?_append_left (by omega)]
    · rw [List.getElem?_append_right (by omega), hl, show (i + 1) * 10 + j - 10 = i * 10 + j from by omega]
      exact ih i (by simpa using hx)
theorem logV_take (l : List Lg) (k : Nat) : (logV l).take (k * 10) = logV (l.take k) := by
  induction l generalizing k with
  | nil => simp [logV]
  | cons y l ih =>
    have hl : y.cells.length = 10 := rfl
    have e1 : logV (y :: l) = y.cells ++ logV l := by simp [logV]
    rcases k with _ | k
    · simp [logV]
    · rw [e1, List.take_succ_cons, show logV (y :: l.take k) = y.cells ++ logV (l.take k) from by simp [logV], List.take_append, List.take_of_length_le (by omega), hl, show (k + 1) * 10 - 10 = k * 10 from by omega, ih]

/-- The journal j has the disk d with the bytes xs, of which k are durable, and remembers s; it lies in blocks of F. -/
def JAt (w : World) (F : Nat → Prop) (j d : Nat) (xs : List UInt8) (k : Nat) (s : Js) : Prop :=
  ∃ v Fd, Blk w j TJ #[.pointer (some ⟨d, 0, none⟩), .int .i64 s.term, .int .i64 s.vote, v] ∧ F j ∧ OwnN w F TLg 10 v s.log.length (logV s.log) ∧ DiskAt w Fd d xs k ∧ (∀ i, Fd i → F i) ∧ ¬ Fd j ∧ (∀ g, v.ownBlock = some g → ¬ Fd g) ∧ ∀ i, F i → i < w.heap.size
/-- What a call leaves of a journal that lay in F. -/
def JTo (w : World) (F : Nat → Prop) (j d : Nat) (xs : List UInt8) (k : Nat) (s : Js) (w' : World) : Prop :=
  ∃ F', JAt w' F' j d xs k s ∧ (∀ i, F' i → F i ∨ w.heap.size ≤ i) ∧ Fr F w w'

section
variable {w w' w1 : World} {F G : Nat → Prop} {j d : Nat} {xs : List UInt8} {k : Nat} {s : Js}
theorem JAt.fr (h : JAt w F j d xs k s) (hf : Fr G w w') (hd : ∀ i, F i → ¬ G i) : JAt w' F j d xs k s := by
  obtain ⟨v, Fd, h1, h2, h3, h4, h5, h6, h7, h8⟩ := h
  exact ⟨v, Fd, h1.fr hf (hd j h2), h2, h3.fr' hf fun g hg => hd g (h3.2 g hg), h4.fr hf fun i hi => hd i (h5 i hi), h5, h6, h7, fun i hi => Nat.lt_of_lt_of_le (h8 i hi) hf.size⟩
theorem JAt.frNo (h : JAt w F j d xs k s) (hf : Fr No w w') : JAt w' F j d xs k s := h.fr hf fun _ _ hi => hi
theorem JAt.lt (h : JAt w F j d xs k s) : ∀ i, F i → i < w.heap.size := by
  obtain ⟨v, Fd, h1, h2, h3, h4, h5, h6, h7, h8⟩ := h
  exact h8
theorem JAt.self (h : JAt w F j d xs k s) : JTo w F j d xs k s w := ⟨F, h, fun _ hi => .inl hi, Fr.refl _ _⟩
/-- The journal's cells, for a walk. -/
theorem JAt.open_ (h : JAt w F j d xs k s) : ∃ A c Fd, Blk w j TJ #[.pointer (some ⟨d, 0, none⟩), .int .i64 s.term, .int .i64 s.vote, .slice A s.log.length c] ∧ F j ∧ OwnN w F TLg 10 (.slice A s.log.length c) s.log.length (logV s.log) ∧ DiskAt w Fd d xs k ∧ (∀ i, Fd i → F i) ∧ ¬ Fd j ∧ (∀ g, Value.ownBlock (.slice A s.log.length c) = some g → ¬ Fd g) ∧ (∀ i, F i → i < w.heap.size) ∧
      w.cell? ⟨j, 0, none⟩ = some (.pointer (some ⟨d, 0, none⟩)) ∧ w.cell? ⟨j, 1, none⟩ = some (.int .i64 s.term) ∧ w.cell? ⟨j, 2, none⟩ = some (.int .i64 s.vote) ∧ w.cell? ⟨j, 3, none⟩ = some (.slice A s.log.length c) ∧ (A = none → s.log.length = 0) := by
  obtain ⟨v, Fd, h1, h2, h3, h4, h5, h6, h7, h8⟩ := h
  obtain ⟨A, c, rfl, hn⟩ := h3.form
  exact ⟨A, c, Fd, h1, h2, h3, h4, h5, h6, h7, h8, h1.cell 0, h1.cell 1, h1.cell 2, h1.cell 3, hn⟩
/-- The disk of a journal has turned. -/
theorem JAt.disk {v : Value} {Fd : Nat → Prop} {ys : List UInt8} {m : Nat} (h1 : Blk w j TJ #[.pointer (some ⟨d, 0, none⟩), .int .i64 s.term, .int .i64 s.vote, v]) (h2 : F j) (h3 : OwnN w F TLg 10 v s.log.length (logV s.log)) (h5 : ∀ i, Fd i → F i) (h6 : ¬ Fd j) (h7 : ∀ g, v.ownBlock = some g → ¬ Fd g) (h8 : ∀ i, F i → i < w.heap.size)
    (hd : DiskTo w Fd d ys m w') : JTo w F j d ys m s w' := by
  obtain ⟨Fd', g1, g2, g3⟩ := hd
  have hjl := h8 j h2
  refine ⟨fun i => F i ∨ (w.heap.size ≤ i ∧ i < w'.heap.size), ⟨v, Fd', h1.fr g3 h6, .inl h2, (h3.fr' g3 h7).mono fun i hi => .inl hi, g1, ?_, ?_, ?_, ?_⟩, ?_, g3.mono h5⟩
  · intro i hi
    have := g1.lt i hi
    rcases g2 i hi with h | h
    · exact .inl (h5 i h)
    · exact .inr ⟨h, this⟩
  · intro h
    rcases g2 j h with h | h
    · exact h6 h
    · omega
  · intro g hg h
    have hl := h3.lt g hg
    rcases g2 g h with h | h
    · exact h7 g hg h
    · omega
  · intro i hi
    rcases hi with h | h
    · exact Nat.lt_of_lt_of_le (h8 i h) g3.size
    · exact h.2
  · intro i hi
    rcases hi with h | h
    · exact .inl h
    · exact .inr h.1
theorem JTo.trans {ys : List UInt8} {m : Nat} {s' : Js} (h : JTo w F j d xs k s w1) (h2 : ∀ F', JAt w1 F' j d xs k s → JTo w1 F' j d ys m s' w') : JTo w F j d ys m s' w' := by
  obtain ⟨F1, h3, h4, h5⟩ := h
  obtain ⟨F2, g3, g4, g5⟩ := h2 F1 h3
  refine ⟨F2, g3, fun i hi => ?_, h5.trans g5 h4⟩
  rcases g4 i hi with h | h
  · exact h4 i h
  · exact .inr (Nat.le_trans h5.size h)
end

theorem j_term {w : World} {F : Nat → Prop} {j d : Nat} {xs : List UInt8} {k : Nat} {s : Js} (h : JAt w F j d xs k s) :
    Calls Try.prog 39 #[.pointer (some ⟨j, 0, none⟩)] w fun e w' => e = .returned (.int .i64 s.term) ∧ w = w' := by
  obtain ⟨A, c, Fd, h1, h2, h3, h4, h5, h6, h7, h8, c0, c1, c2, c3, hn⟩ := h.open_
  clear h h1 h2 h3 h4 h5 h6 h7 h8 hn
  go_enter Try.func39, Try.ntmps39
  go_wp2_with fail
  go_ret
  exact ⟨rfl, rfl⟩
theorem j_vote {w : World} {F : Nat → Prop} {j d : Nat} {xs : List UInt8} {k : Nat} {s : Js} (h : JAt w F j d xs k s) :
    Calls Try.prog 43 #[.pointer (some ⟨j, 0, none⟩)] w fun e w' => e = .returned (.int .i64 s.vote) ∧ w = w' := by
  obtain ⟨A, c, Fd, h1, h2, h3, h4, h5, h6, h7, h8, c0, c1, c2, c3, hn⟩ := h.open_
  clear h h1 h2 h3 h4 h5 h6 h7 h8 hn
  go_enter Try.func43, Try.ntmps43
  go_wp2_with fail
  go_ret
  exact ⟨rfl, rfl⟩
theorem j_len {w : World} {F : Nat → Prop} {j d : Nat} {xs : List UInt8} {k : Nat} {s : Js} (h : JAt w F j d xs k s) :
    Calls Try.prog 44 #[.pointer (some ⟨j, 0, none⟩)] w fun e w' => e = .returned (.int .i64 (s.log.length : Int)) ∧ w = w' := by
  obtain ⟨A, c, Fd, h1, h2, h3, h4, h5, h6, h7, h8, c0, c1, c2, c3, hn⟩ := h.open_
  clear h h1 h2 h3 h4 h5 h6 h7 h8 hn
  go_enter Try.func44, Try.ntmps44
  go_wp2_with fail
  go_ret
  exact ⟨rfl, rfl⟩
theorem j_new (w : World) :
    Calls Try.prog 20 #[] w fun e w' => ∃ j d F, e = .returned (.pointer (some ⟨j, 0, none⟩)) ∧ JAt w' F j d [] 0 jsNew ∧ (∀ i, F i → w.heap.size ≤ i) ∧ Fr No w w' := by
  go_enter Try.func20, Try.ntmps20
  go_wp2_with fail
  refine (disk_new _).mono ?_
  rintro e w1 ⟨rfl, h1, f1⟩
  have H1 := Lib.hid h1
  have F1 := Lib.hid f1
  clear h1 f1
  go_wp2_with fail
  go_ret
  have hs := F1.out.size
  have hd := H1.out.lt w.heap.size rfl
  refine ⟨w1.heap.size, w.heap.size, fun i => i = w.heap.size ∨ i = w1.heap.size, rfl, ⟨.slice none 0 0, fun i => i = w.heap.size, Blk.new _ _ _, .inr rfl, OwnN.nil _ _ _ _, H1.out.frNo (fr_alloc _ _), fun i hi => .inl hi, ?_, fun g hg => (by cases hg), ?_⟩, ?_, F1.out.alloc _⟩
  · intro h
    omega
  · intro i hi
    simp
    omega
  · intro i hi
    omega

/-- The entry with an index, and whether there is one. -/
def atJ (l : List Lg) (i : Int) : Lg × Bool := if 0 ≤ i then (match l[i.toNat]? with | some x => (x, true) | none => (lgZero, false)) else (lgZero, false)
theorem atJ_term (l : List Lg) (i : Int) : (atJ l i).1.term = termAt l i := by
  unfold atJ termAt
  split
  · cases l[i.toNat]? <;> rfl
  · rfl
end Go.Proofs.Ytneeajegegmigaa
