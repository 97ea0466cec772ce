/-
  Several texts in one: Jrn, JrnA, JrnB, JrnC, JrnD, JrnE, JrnF, JrnG, RepP, RepQ.
-/
import Derived.Test.YtokblidfekbeeaaZ17
import Derived.Test.YtokblidfekbeeaaZ06
import Derived.Test.YtokblidfekbeeaaZ11
import Derived.Deep.RegionLaw
import Derived.IntWalk
import Derived.Test.YtokblidfekbeeaaZ13
import Derived.Deep.RegionHeld3
import Derived.Test.YtokblidfekbeeaaZ02
/- The program's journal in memory; the contracts of its readers. -/
namespace Go.Proofs.Ytokblidfekbeeaa
open Go.ChangeShapes Go.WideShapes Go.ChangeAt Go.RowKit
set_option linter.unusedVariables false

abbrev TJ : TypeId := 104
abbrev TLg : TypeId := 45
abbrev lgZero : Lg := ⟨0, enZero⟩
def Lg.cells (x : Lg) : List Value := [.int .i64 x.term, .int .i64 x.e.kind, .int .i64 x.e.tick, .int .i64 x.e.tenant, .int .i64 x.e.cell, .int .i64 x.e.other, .int .i64 x.e.epoch, .int .i64 x.e.from_, .int .i64 x.e.until_, .int .i64 x.e.n]
def Lg.v (x : Lg) : Value := .agg #[.int .i64 x.term, .int .i64 x.e.kind, .int .i64 x.e.tick, .int .i64 x.e.tenant, .int .i64 x.e.cell, .int .i64 x.e.other, .int .i64 x.e.epoch, .int .i64 x.e.from_, .int .i64 x.e.until_, .int .i64 x.e.n]
def logV (l : List Lg) : List Value := l.flatMap Lg.cells
theorem logV_len (l : List Lg) : (logV l).length = l.length * 10 := by
  induction l with
  | nil => rfl
  | cons x l ih => simp only [logV, List.flatMap_cons, List.length_append, List.length_cons] at *; rw [ih, Nat.succ_mul]; simp [Lg.cells]; omega
theorem logV_snoc (l : List Lg) (x : Lg) : logV (l ++ [x]) = logV l ++ x.cells := by simp [logV]
theorem logV_get (l : List Lg) (i j : Nat) (x : Lg) (hx : l[i]? = some x) (hj : j < 10) : (logV l)[i * 10 + j]? = x.cells[j]? := by
  induction l generalizing i with
  | nil => simp at hx
  | cons y l ih =>
    have hl : y.cells.length = 10 := rfl
    have e1 : logV (y :: l) = y.cells ++ logV l := by simp [logV]
    rw [e1]
    rcases i with _ | i
    · simp only [List.getElem?_cons_zero, Option.some.injEq] at hx
      subst hx
      rw [Nat.zero_mul, Nat.zero_add, List.getElem?_append_left (by omega)]
    · rw [List.getElem?_append_right (by omega), hl, show (i + 1) * 10 + j - 10 = i * 10 + j from by omega]
      exact ih i (by simpa using hx)
theorem logV_take (l : List Lg) (k : Nat) : (logV l).take (k * 10) = logV (l.take k) := by
  induction l generalizing k with
  | nil => simp [logV]
  | cons y l ih =>
    have hl : y.cells.length = 10 := rfl
    have e1 : logV (y :: l) = y.cells ++ logV l := by simp [logV]
    rcases k with _ | k
    · simp [logV]
    · rw [e1, List.take_succ_cons, show logV (y :: l.take k) = y.cells ++ logV (l.take k) from by simp [logV], List.take_append, List.take_of_length_le (by omega), hl, show (k + 1) * 10 - 10 = k * 10 from by omega, ih]

/-- The journal j has the disk d with the bytes xs, of which k are durable, and remembers s; it lies in blocks of F. -/
def JAt (w : World) (F : Nat → Prop) (j d : Nat) (xs : List UInt8) (k : Nat) (s : Js) : Prop :=
  ∃ v Fd, Blk w j TJ #[.pointer (some ⟨d, 0, none⟩), .int .i64 s.term, .int .i64 s.vote, v] ∧ F j ∧ OwnN w F TLg 10 v s.log.length (logV s.log) ∧ DiskAt w Fd d xs k ∧ (∀ i, Fd i → F i) ∧ ¬ Fd j ∧ (∀ g, v.ownBlock = some g → ¬ Fd g) ∧ ∀ i, F i → i < w.heap.size
/-- What a call leaves of a journal that lay in F. -/
def JTo (w : World) (F : Nat → Prop) (j d : Nat) (xs : List UInt8) (k : Nat) (s : Js) (w' : World) : Prop :=
  ∃ F', JAt w' F' j d xs k s ∧ (∀ i, F' i → F i ∨ w.heap.size ≤ i) ∧ Fr F w w'

section
variable {w w' w1 : World} {F G : Nat → Prop} {j d : Nat} {xs : List UInt8} {k : Nat} {s : Js}
theorem JAt.fr (h : JAt w F j d xs k s) (hf : Fr G w w') (hd : ∀ i, F i → ¬ G i) : JAt w' F j d xs k s := by
  obtain ⟨v, Fd, h1, h2, h3, h4, h5, h6, h7, h8⟩ := h
  exact ⟨v, Fd, h1.fr hf (hd j h2), h2, h3.fr' hf fun g hg => hd g (h3.2 g hg), h4.fr hf fun i hi => hd i (h5 i hi), h5, h6, h7, fun i hi => Nat.lt_of_lt_of_le (h8 i hi) hf.size⟩
theorem JAt.frNo (h : JAt w F j d xs k s) (hf : Fr No w w') : JAt w' F j d xs k s := h.fr hf fun _ _ hi => hi
theorem JAt.lt (h : JAt w F j d xs k s) : ∀ i, F i → i < w.heap.size := by
  obtain ⟨v, Fd, h1, h2, h3, h4, h5, h6, h7, h8⟩ := h
  exact h8
theorem JAt.self (h : JAt w F j d xs k s) : JTo w F j d xs k s w := ⟨F, h, fun _ hi => .inl hi, Fr.refl _ _⟩
/-- The journal's cells, for a walk. -/
theorem JAt.open_ (h : JAt w F j d xs k s) : ∃ A c Fd, Blk w j TJ #[.pointer (some ⟨d, 0, none⟩), .int .i64 s.term, .int .i64 s.vote, .slice A s.log.length c] ∧ F j ∧ OwnN w F TLg 10 (.slice A s.log.length c) s.log.length (logV s.log) ∧ DiskAt w Fd d xs k ∧ (∀ i, Fd i → F i) ∧ ¬ Fd j ∧ (∀ g, Value.ownBlock (.slice A s.log.length c) = some g → ¬ Fd g) ∧ (∀ i, F i → i < w.heap.size) ∧
      w.cell? ⟨j, 0, none⟩ = some (.pointer (some ⟨d, 0, none⟩)) ∧ w.cell? ⟨j, 1, none⟩ = some (.int .i64 s.term) ∧ w.cell? ⟨j, 2, none⟩ = some (.int .i64 s.vote) ∧ w.cell? ⟨j, 3, none⟩ = some (.slice A s.log.length c) ∧ (A = none → s.log.length = 0) := by
  obtain ⟨v, Fd, h1, h2, h3, h4, h5, h6, h7, h8⟩ := h
  obtain ⟨A, c, rfl, hn⟩ := h3.form
  exact ⟨A, c, Fd, h1, h2, h3, h4, h5, h6, h7, h8, h1.cell 0, h1.cell 1, h1.cell 2, h1.cell 3, hn⟩
/-- The disk of a journal has turned. -/
theorem JAt.disk {v : Value} {Fd : Nat → Prop} {ys : List UInt8} {m : Nat} (h1 : Blk w j TJ #[.pointer (some ⟨d, 0, none⟩), .int .i64 s.term, .int .i64 s.vote, v]) (h2 : F j) (h3 : OwnN w F TLg 10 v s.log.length (logV s.log)) (h5 : ∀ i, Fd i → F i) (h6 : ¬ Fd j) (h7 : ∀ g, v.ownBlock = some g → ¬ Fd g) (h8 : ∀ i, F i → i < w.heap.size)
    (hd : DiskTo w Fd d ys m w') : JTo w F j d ys m s w' := by
  obtain ⟨Fd', g1, g2, g3⟩ := hd
  have hjl := h8 j h2
  refine ⟨fun i => F i ∨ (w.heap.size ≤ i ∧ i < w'.heap.size), ⟨v, Fd', h1.fr g3 h6, .inl h2, (h3.fr' g3 h7).mono fun i hi => .inl hi, g1, ?_, ?_, ?_, ?_⟩, ?_, g3.mono h5⟩
  · intro i hi
    have := g1.lt i hi
    rcases g2 i hi with h | h
    · exact .inl (h5 i h)
    · exact .inr ⟨h, this⟩
  · intro h
    rcases g2 j h with h | h
    · exact h6 h
    · omega
  · intro g hg h
    have hl := h3.lt g hg
    rcases g2 g h with h | h
    · exact h7 g hg h
    · omega
  · intro i hi
    rcases hi with h | h
    · exact Nat.lt_of_lt_of_le (h8 i h) g3.size
    · exact h.2
  · intro i hi
    rcases hi with h | h
    · exact .inl h
    · exact .inr h.1
theorem JTo.trans {ys : List UInt8} {m : Nat} {s' : Js} (h : JTo w F j d xs k s w1) (h2 : ∀ F', JAt w1 F' j d xs k s → JTo w1 F' j d ys m s' w') : JTo w F j d ys m s' w' := by
  obtain ⟨F1, h3, h4, h5⟩ := h
  obtain ⟨F2, g3, g4, g5⟩ := h2 F1 h3
  refine ⟨F2, g3, fun i hi => ?_, h5.trans g5 h4⟩
  rcases g4 i hi with h | h
  · exact h4 i h
  · exact .inr (Nat.le_trans h5.size h)
end

theorem j_term {w : World} {F : Nat → Prop} {j d : Nat} {xs : List UInt8} {k : Nat} {s : Js} (h : JAt w F j d xs k s) :
    Calls Try.prog 52 #[.pointer (some ⟨j, 0, none⟩)] w fun e w' => e = .returned (.int .i64 s.term) ∧ w = w' := by
  obtain ⟨A, c, Fd, h1, h2, h3, h4, h5, h6, h7, h8, c0, c1, c2, c3, hn⟩ := h.open_
  clear h h1 h2 h3 h4 h5 h6 h7 h8 hn
  go_enter Try.func52, Try.ntmps52
  go_wp2_with fail
  go_ret
  exact ⟨rfl, rfl⟩
theorem j_vote {w : World} {F : Nat → Prop} {j d : Nat} {xs : List UInt8} {k : Nat} {s : Js} (h : JAt w F j d xs k s) :
    Calls Try.prog 96 #[.pointer (some ⟨j, 0, none⟩)] w fun e w' => e = .returned (.int .i64 s.vote) ∧ w = w' := by
  obtain ⟨A, c, Fd, h1, h2, h3, h4, h5, h6, h7, h8, c0, c1, c2, c3, hn⟩ := h.open_
  clear h h1 h2 h3 h4 h5 h6 h7 h8 hn
  go_enter Try.func96, Try.ntmps96
  go_wp2_with fail
  go_ret
  exact ⟨rfl, rfl⟩
theorem j_len {w : World} {F : Nat → Prop} {j d : Nat} {xs : List UInt8} {k : Nat} {s : Js} (h : JAt w F j d xs k s) :
    Calls Try.prog 82 #[.pointer (some ⟨j, 0, none⟩)] w fun e w' => e = .returned (.int .i64 (s.log.length : Int)) ∧ w = w' := by
  obtain ⟨A, c, Fd, h1, h2, h3, h4, h5, h6, h7, h8, c0, c1, c2, c3, hn⟩ := h.open_
  clear h h1 h2 h3 h4 h5 h6 h7 h8 hn
  go_enter Try.func82, Try.ntmps82
  go_wp2_with fail
  go_ret
  exact ⟨rfl, rfl⟩
theorem j_new (w : World) :
    Calls Try.prog 48 #[] w fun e w' => ∃ j d F, e = .returned (.pointer (some ⟨j, 0, none⟩)) ∧ JAt w' F j d [] 0 jsNew ∧ (∀ i, F i → w.heap.size ≤ i) ∧ Fr No w w' := by
  go_enter Try.func48, Try.ntmps48
  go_wp2_with fail
  refine (disk_new _).mono ?_
  rintro e w1 ⟨rfl, h1, f1⟩
  have H1 := Lib.hid h1
  have F1 := Lib.hid f1
  clear h1 f1
  go_wp2_with fail
  go_ret
  have hs := F1.out.size
  have hd := H1.out.lt w.heap.size rfl
  refine ⟨w1.heap.size, w.heap.size, fun i => i = w.heap.size ∨ i = w1.heap.size, rfl, ⟨.slice none 0 0, fun i => i = w.heap.size, Blk.new _ _ _, .inr rfl, OwnN.nil _ _ _ _, H1.out.frNo (fr_alloc _ _), fun i hi => .inl hi, ?_, fun g hg => (by cases hg), ?_⟩, ?_, F1.out.alloc _⟩
  · intro h
    omega
  · intro i hi
    simp
    omega
  · intro i hi
    omega

/-- The entry with an index, and whether there is one. -/
def atJ (l : List Lg) (i : Int) : Lg × Bool := if 0 ≤ i then (match l[i.toNat]? with | some x => (x, true) | none => (lgZero, false)) else (lgZero, false)
theorem atJ_term (l : List Lg) (i : Int) : (atJ l i).1.term = termAt l i := by
  unfold atJ termAt
  split
  · cases l[i.toNat]? <;> rfl
  · rfl
end Go.Proofs.Ytokblidfekbeeaa
/- The contracts of At, TermAt, setTerm, cut. -/
namespace Go.Proofs.Ytokblidfekbeeaa
open Go.ChangeShapes Go.WideShapes Go.ChangeAt Go.RowKit
set_option linter.unusedVariables false

set_option maxHeartbeats 2000000 in
theorem j_at {w : World} {F : Nat → Prop} {j d : Nat} {xs : List UInt8} {k : Nat} {s : Js} (h : JAt w F j d xs k s) (i : Int) :
    Calls Try.prog 93 #[.pointer (some ⟨j, 0, none⟩), .int .i64 i] w fun e w' => e = .returned (.tuple #[(atJ s.log i).1.v, .bool (atJ s.log i).2]) ∧ Fr No w w' := by
  obtain ⟨A, c, Fd, h1, h2, h3, h4, h5, h6, h7, h8, c0, c1, c2, c3, hn⟩ := h.open_
  have hjl := h1.lt
  clear h h1 h2 h4 h5 h6 h7 h8
  by_cases h0 : i < 0
  · have ha : atJ s.log i = (lgZero, false) := by unfold atJ; rw [if_neg (by omega)]
    rw [ha]
    have t1 : decide (i < 0) = true := by simpa using h0
    clear ha hn h3
    go_enter Try.func93, Try.ntmps93
    go_wp2_with fail
    refine bodyPost_ret (v := .tuple #[.agg _, .bool false]) (by simp [results, Try.results93, go_sem]) rfl ⟨rfl, ?_⟩
    exact fr_alloc _ _
  · have t1 : decide (i < 0) = false := by simpa using h0
    obtain ⟨n, rfl⟩ : ∃ n : Nat, i = (n : Int) := ⟨i.toNat, by omega⟩
    by_cases h9 : s.log.length ≤ n
    · have ha : atJ s.log (n : Int) = (lgZero, false) := by unfold atJ; rw [if_pos (by omega), Int.toNat_natCast, List.getElem?_eq_none h9]
      rw [ha]
      have t2 : decide ((s.log.length : Int) ≤ (n : Int)) = true := by simpa using h9
      clear ha hn h3
      go_enter Try.func93, Try.ntmps93
      go_wp2_with fail
      refine bodyPost_ret (v := .tuple #[.agg _, .bool false]) (by simp [results, Try.results93, go_sem]) rfl ⟨rfl, ?_⟩
      exact fr_alloc _ _
    · obtain ⟨x, hx⟩ : ∃ x, s.log[n]? = some x := ⟨_, List.getElem?_eq_getElem (by omega)⟩
      have ha : atJ s.log (n : Int) = (x, true) := by unfold atJ; rw [if_pos (by omega), Int.toNat_natCast, hx]
      rw [ha]
      have t2 : decide ((s.log.length : Int) ≤ (n : Int)) = false := by simp; omega
      obtain ⟨b, rfl, hb, -, hc⟩ := h3.head (by omega)
      have hlt : n < s.log.length := by omega
      have e0 : w.cell? ⟨b, n * 10, none⟩ = some (.int .i64 x.term) := by rw [← Nat.add_zero (n * 10), hc _ (by rw [logV_len]; omega), logV_get s.log n 0 x hx (by omega)]; rfl
      have e1 : w.cell? ⟨b, n * 10 + 1, none⟩ = some (.int .i64 x.e.kind) := by rw [hc _ (by rw [logV_len]; omega), logV_get s.log n 1 x hx (by omega)]; rfl
      have e2 : w.cell? ⟨b, n * 10 + 2, none⟩ = some (.int .i64 x.e.tick) := by rw [hc _ (by rw [logV_len]; omega), logV_get s.log n 2 x hx (by omega)]; rfl
      have e3 : w.cell? ⟨b, n * 10 + 3, none⟩ = some (.int .i64 x.e.tenant) := by rw [hc _ (by rw [logV_len]; omega), logV_get s.log n 3 x hx (by omega)]; rfl
      have e4 : w.cell? ⟨b, n * 10 + 4, none⟩ = some (.int .i64 x.e.cell) := by rw [hc _ (by rw [logV_len]; omega), logV_get s.log n 4 x hx (by omega)]; rfl
      have e5 : w.cell? ⟨b, n * 10 + 5, none⟩ = some (.int .i64 x.e.other) := by rw [hc _ (by rw [logV_len]; omega), logV_get s.log n 5 x hx (by omega)]; rfl
      have e6 : w.cell? ⟨b, n * 10 + 6, none⟩ = some (.int .i64 x.e.epoch) := by rw [hc _ (by rw [logV_len]; omega), logV_get s.log n 6 x hx (by omega)]; rfl
      have e7 : w.cell? ⟨b, n * 10 + 7, none⟩ = some (.int .i64 x.e.from_) := by rw [hc _ (by rw [logV_len]; omega), logV_get s.log n 7 x hx (by omega)]; rfl
      have e8 : w.cell? ⟨b, n * 10 + 8, none⟩ = some (.int .i64 x.e.until_) := by rw [hc _ (by rw [logV_len]; omega), logV_get s.log n 8 x hx (by omega)]; rfl
      have e9 : w.cell? ⟨b, n * 10 + 9, none⟩ = some (.int .i64 x.e.n) := by rw [hc _ (by rw [logV_len]; omega), logV_get s.log n 9 x hx (by omega)]; rfl
      clear ha hn h3 hc h9
      have HX := Lib.hid hx
      clear hx
      go_enter Try.func93, Try.ntmps93
      go_wp2_with fail
      refine bodyPost_ret (v := .tuple #[.agg _, .bool true]) (by simp [results, Try.results93, go_sem]) rfl ⟨rfl, ?_⟩
      exact fr_alloc _ _

theorem j_termAt {w : World} {F : Nat → Prop} {j d : Nat} {xs : List UInt8} {k : Nat} {s : Js} (h : JAt w F j d xs k s) (i : Int) :
    Calls Try.prog 80 #[.pointer (some ⟨j, 0, none⟩), .int .i64 i] w fun e w' => e = .returned (.int .i64 (termAt s.log i)) ∧ Fr No w w' := by
  have hA := j_at h i
  rw [← atJ_term]
  revert hA
  generalize (atJ s.log i).1 = x
  generalize (atJ s.log i).2 = b
  intro hA
  unfold Lg.v at hA
  have HA := Lib.hid hA
  clear hA
  clear h
  go_enter Try.func80, Try.ntmps80
  go_wp2_with fail
  refine HA.out.mono ?_
  rintro e w1 ⟨rfl, f1⟩
  have F1 := Lib.hid f1
  clear f1
  go_wp2_with fail
  go_ret
  exact ⟨rfl, F1.out.alloc _⟩

section
variable {w : World} {F : Nat → Prop} {j d : Nat} {xs : List UInt8} {k : Nat} {s : Js} {v : Value} {Fd : Nat → Prop}
theorem JAt.setTV (t u : Int) (h1 : Blk w j TJ #[.pointer (some ⟨d, 0, none⟩), .int .i64 s.term, .int .i64 s.vote, v]) (h2 : F j) (h3 : OwnN w F TLg 10 v s.log.length (logV s.log)) (h4 : DiskAt w Fd d xs k) (h5 : ∀ i, Fd i → F i) (h6 : ¬ Fd j) (h7 : ∀ g, v.ownBlock = some g → ¬ Fd g) (h8 : ∀ i, F i → i < w.heap.size) :
    JTo w F j d xs k ⟨t, u, s.log⟩ ((w.setCell ⟨j, 1, none⟩ (.int .i64 t)).setCell ⟨j, 2, none⟩ (.int .i64 u)) := by
  have hf : Fr (fun i => i = j) w ((w.setCell ⟨j, 1, none⟩ (.int .i64 t)).setCell ⟨j, 2, none⟩ (.int .i64 u)) := ((Fr.refl (fun i => i = j) w).setCell (p := ⟨j, 1, none⟩) (.inl rfl) _).setCell (p := ⟨j, 2, none⟩) (.inl rfl) _
  refine ⟨F, ⟨v, Fd, (h1.set_ 1 _).set_ 2 _, h2, h3.fr' hf (h3.ne_blk h1 (by decide)), h4.fr hf (fun i hi he => h6 (he ▸ hi)), h5, h6, h7, fun i hi => Nat.lt_of_lt_of_le (h8 i hi) hf.size⟩, fun i hi => .inl hi, hf.mono fun i hi => hi ▸ h2⟩
theorem JAt.setLog {v' : Value} {l : List Lg} (h1 : Blk w j TJ #[.pointer (some ⟨d, 0, none⟩), .int .i64 s.term, .int .i64 s.vote, v]) (h2 : F j) (h3 : OwnN w F TLg 10 v' l.length (logV l)) (h4 : DiskAt w Fd d xs k) (h5 : ∀ i, Fd i → F i) (h6 : ¬ Fd j) (h7 : ∀ g, v'.ownBlock = some g → ¬ Fd g) (h8 : ∀ i, F i → i < w.heap.size) :
    JTo w F j d xs k ⟨s.term, s.vote, l⟩ (w.setCell ⟨j, 3, none⟩ v') := by
  have hf : Fr (fun i => i = j) w (w.setCell ⟨j, 3, none⟩ v') := (Fr.refl (fun i => i = j) w).setCell (p := ⟨j, 3, none⟩) (.inl rfl) _
  refine ⟨F, ⟨v', Fd, h1.set_ 3 _, h2, h3.fr' hf (h3.ne_blk h1 (by decide)), h4.fr hf (fun i hi he => h6 (he ▸ hi)), h5, h6, h7, fun i hi => Nat.lt_of_lt_of_le (h8 i hi) hf.size⟩, fun i hi => .inl hi, hf.mono fun i hi => hi ▸ h2⟩
end

set_option maxHeartbeats 4000000 in
theorem j_setTerm {w : World} {F : Nat → Prop} {j d : Nat} {xs : List UInt8} {k : Nat} {s : Js} (h : JAt w F j d xs k s) (t v : Int) :
    Calls Try.prog 95 #[.pointer (some ⟨j, 0, none⟩), .int .i64 t, .int .i64 v] w fun e w' => e = .returned (.int .i64 (setTermX s t v)) ∧ JTo w F j d xs k (setTermS s t v) w' := by
  have hself := h.self
  obtain ⟨A, c, Fd, h1, h2, h3, h4, h5, h6, h7, h8, c0, c1, c2, c3, hn⟩ := h.open_
  have hset := JAt.setTV t v h1 h2 h3 h4 h5 h6 h7 h8
  have f1 := h1.frozen 1
  have f2 := h1.frozen 2
  obtain ⟨X, hX⟩ : ∃ X, X = setTermX s t v := ⟨_, rfl⟩
  have hS : setTermS s t v = if X = 0 then ⟨t, v, s.log⟩ else s := by rw [hX]; rfl
  rw [hS, ← hX]
  unfold setTermX at hX
  clear h h1 h2 h3 h4 h5 h6 h7 h8 hn hS
  have fin0 : X = 0 → JTo w F j d xs k (if X = 0 then ⟨t, v, s.log⟩ else s) ((w.setCell ⟨j, 1, none⟩ (.int .i64 t)).setCell ⟨j, 2, none⟩ (.int .i64 v)) := fun e => by rw [if_pos e]; exact hset
  have fin1 : X ≠ 0 → JTo w F j d xs k (if X = 0 then ⟨t, v, s.log⟩ else s) w := fun e => by rw [if_neg e]; exact hself
  clear hself hset
  obtain ⟨S, hSS⟩ : ∃ S : Js, S = if X = 0 then ⟨t, v, s.log⟩ else s := ⟨_, rfl⟩
  rw [← hSS] at fin0 fin1 ⊢
  clear hSS
  obtain ⟨st, hst⟩ : ∃ st, st = s.term := ⟨_, rfl⟩
  obtain ⟨sv, hsv⟩ : ∃ sv, sv = s.vote := ⟨_, rfl⟩
  rw [← hst] at c1 hX
  rw [← hsv] at c2 hX
  clear hst hsv
  have FIN0 := Lib.hid fin0
  have FIN1 := Lib.hid fin1
  clear fin0 fin1
  by_cases g1 : t < 0
  · rw [if_pos (.inl g1)] at hX
    have t1 : decide (t < 0) = true := by simpa using g1
    subst hX
    go_enter Try.func95, Try.ntmps95
    go_wp2_with fail
    go_ret
    exact ⟨rfl, FIN1.out (by decide)⟩
  have t1 : decide (t < 0) = false := by simpa using g1
  by_cases g2 : 1073741824 < t
  · rw [if_pos (.inr (.inl g2))] at hX
    have t2 : decide (1073741824 < t) = true := by simpa using g2
    subst hX
    go_enter Try.func95, Try.ntmps95
    go_wp2_with fail
    go_ret
    exact ⟨rfl, FIN1.out (by decide)⟩
  have t2 : decide (1073741824 < t) = false := by simpa using g2
  by_cases g3 : v < -1
  · rw [if_pos (.inr (.inr (.inl g3)))] at hX
    have t3 : decide (v < -1) = true := by simpa using g3
    subst hX
    go_enter Try.func95, Try.ntmps95
    go_wp2_with fail
    go_ret
    exact ⟨rfl, FIN1.out (by decide)⟩
  have t3 : decide (v < -1) = false := by simpa using g3
  by_cases g4 : 5 ≤ v
  · rw [if_pos (.inr (.inr (.inr g4)))] at hX
    have t4 : decide (5 ≤ v) = true := by simpa using g4
    subst hX
    go_enter Try.func95, Try.ntmps95
    go_wp2_with fail
    go_ret
    exact ⟨rfl, FIN1.out (by decide)⟩
  have t4 : decide (5 ≤ v) = false := by simpa using g4
  rw [if_neg (by omega)] at hX
  clear g1 g2 g3 g4
  by_cases g5 : t < st
  · rw [if_pos (.inl g5)] at hX
    have t5 : decide (t < st) = true := by simpa using g5
    subst hX
    go_enter Try.func95, Try.ntmps95
    go_wp2_with fail
    go_ret
    exact ⟨rfl, FIN1.out (by decide)⟩
  have t5 : decide (t < st) = false := by simpa using g5
  by_cases g6 : t = st
  · have t6 : (t == st) = true := by simpa using g6
    by_cases g7 : sv = -1
    · rw [if_neg (by omega)] at hX
      have t7 : (sv != -1) = false := by simpa using g7
      subst hX
      clear g5 g6 g7
      go_enter Try.func95, Try.ntmps95
      go_wp2_with fail
      go_ret
      exact ⟨rfl, FIN0.out (by trivial)⟩
    · have t7 : (sv != -1) = true := by simpa using g7
      by_cases g8 : sv = v
      · rw [if_neg (by omega)] at hX
        have t8 : (sv != v) = false := by simpa using g8
        subst hX
        clear g5 g6 g7 g8
        go_enter Try.func95, Try.ntmps95
        go_wp2_with fail
        go_ret
        exact ⟨rfl, FIN0.out (by trivial)⟩
      · rw [if_pos (.inr ⟨g6, g7, g8⟩)] at hX
        have t8 : (sv != v) = true := by simpa using g8
        subst hX
        clear g5 g6 g7 g8
        go_enter Try.func95, Try.ntmps95
        go_wp2_with fail
        go_ret
        exact ⟨rfl, FIN1.out (by decide)⟩
  · rw [if_neg (by omega)] at hX
    have t6 : (t == st) = false := by simpa using g6
    subst hX
    clear g5 g6
    go_enter Try.func95, Try.ntmps95
    go_wp2_with fail
    go_ret
    exact ⟨rfl, FIN0.out (by trivial)⟩

set_option maxHeartbeats 4000000 in
theorem j_cut {w : World} {F : Nat → Prop} {j d : Nat} {xs : List UInt8} {k : Nat} {s : Js} (h : JAt w F j d xs k s) (n : Int) :
    Calls Try.prog 105 #[.pointer (some ⟨j, 0, none⟩), .int .i64 n] w fun e w' => e = .returned (.int .i64 (cutX s n)) ∧ JTo w F j d xs k (cutS s n) w' := by
  have hself := h.self
  obtain ⟨A, c, Fd, h1, h2, h3, h4, h5, h6, h7, h8, c0, c1, c2, c3, hn⟩ := h.open_
  have f3 := h1.frozen 3
  have hcap := h3.cap
  by_cases g1 : n < 0
  · have hx : cutX s n = 1 := by unfold cutX; rw [if_pos (.inl g1)]
    have hy : cutS s n = s := by unfold cutS; rw [hx]; rfl
    rw [hx, hy]
    have t1 : decide (n < 0) = true := by simpa using g1
    clear h h1 h2 h3 h4 h5 h6 h7 h8 hn hx hy
    have HSELF := Lib.hid hself
    clear hself
    go_enter Try.func105, Try.ntmps105
    go_wp2_with fail
    go_ret
    exact ⟨rfl, HSELF.out⟩
  · have t1 : decide (n < 0) = false := by simpa using g1
    by_cases g2 : (s.log.length : Int) < n
    · have hx : cutX s n = 1 := by unfold cutX; rw [if_pos (.inr g2)]
      have hy : cutS s n = s := by unfold cutS; rw [hx]; rfl
      rw [hx, hy]
      have t2 : decide ((s.log.length : Int) < n) = true := by simpa using g2
      clear h h1 h2 h3 h4 h5 h6 h7 h8 hn hx hy
      have HSELF := Lib.hid hself
      clear hself
      go_enter Try.func105, Try.ntmps105
      go_wp2_with fail
      go_ret
      exact ⟨rfl, HSELF.out⟩
    · obtain ⟨m, rfl⟩ : ∃ m : Nat, n = (m : Int) := ⟨n.toNat, by omega⟩
      have hx : cutX s (m : Int) = 0 := by unfold cutX; rw [if_neg (by omega)]
      have hy : cutS s (m : Int) = ⟨s.term, s.vote, s.log.take m⟩ := by unfold cutS; rw [hx, if_pos rfl, Int.toNat_natCast]
      rw [hx, hy]
      have t2 : decide ((s.log.length : Int) < (m : Int)) = false := by simp; omega
      have hml : m ≤ s.log.length := by omega
      have h3c := h3.cut hml
      rw [logV_take] at h3c
      have hfin := JAt.setLog (l := s.log.take m) (v' := .slice A m c) h1 h2 (by rw [List.length_take, Nat.min_eq_left hml]; exact h3c) h4 h5 h6 (fun g hg => h7 g (by rcases A with _ | a <;> exact hg)) h8
      have hmc : m ≤ c := by omega
      clear h h1 h2 h3 h4 h5 h6 h7 h8 hx hy hself h3c
      have HFIN := Lib.hid hfin
      clear hfin
      go_enter Try.func105, Try.ntmps105
      go_wp2_with fail
      go_ret
      exact ⟨rfl, HFIN.out⟩
end Go.Proofs.Ytokblidfekbeeaa
/- The contract of add: an entry is appended to the log, without the disk. -/
namespace Go.Proofs.Ytokblidfekbeeaa
open Go.ChangeShapes Go.WideShapes Go.ChangeAt Go.RowKit
set_option linter.unusedVariables false

theorem log_info : (Try.prog.info? TLg).map (fun i => (i.zero, i.size, i.bytes)) = some (some (.agg #[.int .i64 0, .int .i64 0, .int .i64 0, .int .i64 0, .int .i64 0, .int .i64 0, .int .i64 0, .int .i64 0, .int .i64 0, .int .i64 0]), 10, 80) := by kernel_rfl
theorem JAt.still {w w' : World} {F : Nat → Prop} {j d : Nat} {xs : List UInt8} {k : Nat} {s : Js} (h : JAt w F j d xs k s) (hf : Fr No w w') : JTo w F j d xs k s w' := ⟨F, h.frNo hf, fun _ hi => .inl hi, hf.mono fun _ hi => hi.elim⟩
/-- An entry was appended, and the journal's slice set. -/
theorem JAt.added {w w1 w2 : World} {F : Nat → Prop} {j d : Nat} {xs : List UInt8} {k : Nat} {s : Js} {v v' : Value} {Fd : Nat → Prop} {x : Lg} (h1 : Blk w j TJ #[.pointer (some ⟨d, 0, none⟩), .int .i64 s.term, .int .i64 s.vote, v]) (h2 : F j) (h3 : OwnN w F TLg 10 v s.log.length (logV s.log)) (h4 : DiskAt w Fd d xs k) (h5 : ∀ i, Fd i → F i) (h6 : ¬ Fd j) (h7 : ∀ g, v.ownBlock = some g → ¬ Fd g) (h8 : ∀ i, F i → i < w.heap.size)
    (hf : Fr No w w1) (ha : AppendedN w1 0 TLg 10 v s.log.length (logV s.log) x.cells 1 v' w2) :
    Blk w2 j TJ #[.pointer (some ⟨d, 0, none⟩), .int .i64 s.term, .int .i64 s.vote, v] ∧ JTo w F j d xs k ⟨s.term, s.vote, s.log ++ [x]⟩ (w2.setCell ⟨j, 3, none⟩ v') := by
  have h3' := h3.frNo hf
  obtain ⟨o1, -⟩ := h3'.appended ha
  have hg : Fr (fun i => v.ownBlock = some i) w1 w2 := (Fr.refl _ _).grown ha.2.1 fun q hq => .inl hq
  have hs := hf.size
  have hb1 := h1.fr hf (fun h => h)
  have hb2 : Blk w2 j TJ #[.pointer (some ⟨d, 0, none⟩), .int .i64 s.term, .int .i64 s.vote, v] := hb1.fr hg (fun h => h3'.ne_blk hb1 (by decide) j h rfl)
  have hd2 : DiskAt w2 Fd d xs k := (h4.frNo hf).fr hg fun i hi h => h7 i h hi
  refine ⟨hb2, ?_⟩
  rw [← logV_snoc] at o1
  have hjt := JAt.setLog (F := fun i => F i ∨ (i = w1.heap.size ∧ i < w2.heap.size)) (s := s) (v' := v') (l := s.log ++ [x]) hb2 (.inl h2) (by rw [List.length_append]; exact o1) hd2 (fun i hi => .inl (h5 i hi)) h6 (fun g hgv h => by
      rcases ha.2.2 with e1 | e1
      · exact h7 g (e1.symm.trans hgv) h
      · rw [e1] at hgv
        injection hgv with hgv
        have := h8 g (h5 g h)
        omega) (fun i hi => by
      rcases hi with hi | hi
      · exact Nat.lt_of_lt_of_le (Nat.lt_of_lt_of_le (h8 i hi) hs) hg.size
      · exact hi.2)
  obtain ⟨F', g1, g2, g3⟩ := hjt
  refine ⟨F', g1, fun i hi => ?_, ?_⟩
  · rcases g2 i hi with (h | h) | h
    · exact .inl h
    · exact .inr (by omega)
    · exact .inr (Nat.le_trans (Nat.le_trans hs hg.size) h)
  · refine (hf.mono (G := F) fun _ hi => hi.elim).trans ((hg.mono (G := fun i => F i ∨ w.heap.size ≤ i) fun i hi => .inl (h3.2 i hi)).trans (g3.mono (G := fun i => F i ∨ w.heap.size ≤ i) fun i hi => ?_) fun i hi => .inl hi) fun i hi => hi
    rcases hi with h | h
    · exact .inl h
    · exact .inr (by omega)

set_option maxRecDepth 100000 in
set_option maxHeartbeats 8000000 in
theorem j_add {w : World} {F : Nat → Prop} {j d : Nat} {xs : List UInt8} {k : Nat} {s : Js} (h : JAt w F j d xs k s) (hlen : s.log.length ≤ 4096) (t : Int) (e : En) :
    Calls Try.prog 83 #[.pointer (some ⟨j, 0, none⟩), .int .i64 t, e.v] w fun r w' => r = .returned (.int .i64 (addX s t e)) ∧ JTo w F j d xs k (addS s t e) w' := by
  obtain ⟨i0, hi0, hz0, hz1, hz2⟩ := info_parts log_info
  have hsh := fun V => shape_any e V
  obtain ⟨X, hX⟩ : ∃ X, X = addX s t e := ⟨_, rfl⟩
  have hS : addS s t e = if X = 0 then ⟨s.term, s.vote, s.log ++ [⟨t, e⟩]⟩ else s := by rw [hX]; rfl
  rw [hS, ← hX]
  unfold addX at hX
  revert hsh hX
  generalize shapeB e = b
  intro hsh hX
  clear hS
  obtain ⟨k0, tick, te, ce, ot, ep, fr, un, n⟩ := e
  unfold En.v at *
  have hstill := fun w' (hf : Fr No w w') => h.still hf
  have hta := fun w' (hf : Fr No w w') => j_termAt (h.frNo hf) ((s.log.length : Int) - 1)
  obtain ⟨A, c, Fd, h1, h2, h3, h4, h5, h6, h7, h8, d0, d1, d2, d3, hn⟩ := h.open_
  have hjl := h1.lt
  have hcap := h3.cap
  have hput := fun w1 v' w2 (hf : Fr No w w1) ha => JAt.added (w2 := w2) (v' := v') (x := ⟨t, ⟨k0, tick, te, ce, ot, ep, fr, un, n⟩⟩) h1 h2 h3 h4 h5 h6 h7 h8 hf ha
  have hown := fun w' (hf : Fr No w w') => (h3.frNo hf).1
  have BB := Lib.hid (Blk.new w TEnt #[.int .i64 k0, .int .i64 tick, .int .i64 te, .int .i64 ce, .int .i64 ot, .int .i64 ep, .int .i64 fr, .int .i64 un, .int .i64 n])
  have FF := Lib.hid (fr_alloc w (.cells #[.int .i64 k0, .int .i64 tick, .int .i64 te, .int .i64 ce, .int .i64 ot, .int .i64 ep, .int .i64 fr, .int .i64 un, .int .i64 n] TEnt))
  obtain ⟨c0, c1, c2, c3, c4, c5, c6, c7, c8⟩ := ent_cells BB.out
  have hwr : IntKind.i64.wrap ((s.log.length : Int) - 1) = (s.log.length : Int) - 1 := IntWalk.i64_in _ (by omega)
  clear h h2 h3 h4 h5 h6 h7 h8 hn
  generalize termAt s.log ((s.log.length : Int) - 1) = lt at *
  have HSH := Lib.hid hsh
  have HSTILL := Lib.hid hstill
  have HTA := Lib.hid hta
  have HPUT := Lib.hid hput
  have HOWN := Lib.hid hown
  have H1 := Lib.hid h1
  clear hsh hstill hta hput hown h1
  by_cases g1 : t < 1
  · rw [if_pos (.inl g1)] at hX
    have t1 : decide (t < 1) = true := by simpa using g1
    subst hX
    go_enter Try.func83, Try.ntmps83
    go_wp2_with fail
    go_ret
    exact ⟨rfl, HSTILL.out _ FF.out⟩
  have t1 : decide (t < 1) = false := by simpa using g1
  by_cases g2 : 1073741824 < t
  · rw [if_pos (.inr (.inl g2))] at hX
    have t2 : decide (1073741824 < t) = true := by simpa using g2
    subst hX
    go_enter Try.func83, Try.ntmps83
    go_wp2_with fail
    go_ret
    exact ⟨rfl, HSTILL.out _ FF.out⟩
  have t2 : decide (1073741824 < t) = false := by simpa using g2
  have HX := Lib.hid hX
  clear hX
  go_enter Try.func83, Try.ntmps83
  go_wp2_with fail
  refine (HSH.out _).mono ?_
  rintro r w5 ⟨rfl, f5⟩
  replace FF := Lib.hid (FF.out.transNo f5)
  replace BB := Lib.hid (BB.out.fr f5 (fun h => h))
  clear f5 c0 c1 c2 c3 c4 c5 c6 c7 c8 d0 d1 d2 d3
  obtain ⟨c0, c1, c2, c3, c4, c5, c6, c7, c8⟩ := ent_cells BB.out
  have hb5 := H1.out.fr FF.out (fun h => h)
  have d1 : w5.cell? ⟨j, 1, none⟩ = some (.int .i64 s.term) := hb5.cell 1
  have d3 : w5.cell? ⟨j, 3, none⟩ = some (.slice A s.log.length c) := hb5.cell 3
  have hjl5 := hb5.lt
  clear hb5
  cases b
  · have hX := HX.out
    rw [if_pos (.inr (.inr rfl))] at hX
    subst hX
    clear HX
    go_wp2_with fail
    go_ret
    exact ⟨rfl, HSTILL.out _ FF.out⟩
  have hX := HX.out
  rw [if_neg (by simp; omega)] at hX
  clear HX
  by_cases g3 : s.term < t
  · rw [if_pos (.inl g3)] at hX
    have t3 : decide (s.term < t) = true := by simpa using g3
    subst hX
    go_wp2_with fail
    go_ret
    exact ⟨rfl, HSTILL.out _ FF.out⟩
  have t3 : decide (s.term < t) = false := by simpa using g3
  have HX := Lib.hid hX
  clear hX
  go_wp2_with fail
  refine (HTA.out _ FF.out).mono ?_
  rintro r w6 ⟨rfl, f6⟩
  replace FF := Lib.hid (FF.out.transNo f6)
  replace BB := Lib.hid (BB.out.fr f6 (fun h => h))
  clear f6 c0 c1 c2 c3 c4 c5 c6 c7 c8 d1 d3 hjl5
  obtain ⟨c0, c1, c2, c3, c4, c5, c6, c7, c8⟩ := ent_cells BB.out
  have hb5 := H1.out.fr FF.out (fun h => h)
  have d3 : w6.cell? ⟨j, 3, none⟩ = some (.slice A s.log.length c) := hb5.cell 3
  have q3 := hb5.frozen 3
  have hjl6 := hb5.lt
  have hel := BB.out.lt
  clear hb5
  have hX := HX.out
  clear HX
  by_cases g4 : t < lt
  · rw [if_pos (.inr g4)] at hX
    have t4 : decide (t < lt) = true := by simpa using g4
    subst hX
    go_wp2_with fail
    go_ret
    exact ⟨rfl, HSTILL.out _ FF.out⟩
  have t4 : decide (t < lt) = false := by simpa using g4
  rw [if_neg (by omega)] at hX
  by_cases g5 : 4096 ≤ s.log.length
  · rw [if_pos g5] at hX
    have t5 : decide ((4096 : Int) ≤ (s.log.length : Int)) = true := by simp; omega
    subst hX
    go_wp2_with fail
    go_ret
    exact ⟨rfl, HSTILL.out _ FF.out⟩
  have t5 : decide ((4096 : Int) ≤ (s.log.length : Int)) = false := by simp; omega
  rw [if_neg g5] at hX
  subst hX
  go_wp2_with fail
  go_region_law (refine step_append_rdN _ (by rfl) (.tmp 46) (.tmp 50) _ (by rfl) 0 TLg i0 _ 10 80 Try.underlying36 hi0 hz0 hz1 hz2 rfl (by decide) (.slice A s.log.length c) s.log.length (logV s.log) (by rfl) (HOWN.out _ ((FF.out.drew).alloc _)) (w6.heap.size + 1) (some ⟨w6.heap.size, 0, none⟩) 1 1 (Lg.cells ⟨t, ⟨k0, tick, te, ce, ot, ep, fr, un, n⟩⟩) (by rfl) (fun h => by cases h) (Rd.new w6.drew _ TLg rfl) rfl (by simp [Lg.cells, Value.oneCell']) (by unfold maxLen; omega) (by omega) (Nat.zero_le _) ?_; intro v1 w1 happ; obtain ⟨A4, c4, rfl, n4⟩ := ownsRow_slice_form happ.1; clear n4; obtain ⟨hbj, hjt⟩ := HPUT.out _ _ w1 ((FF.out.drew).alloc _) happ; have x3 : w1.cell? ⟨j, 3, none⟩ = some (.slice A s.log.length c) := hbj.cell 3; have y3 := hbj.frozen 3; have HJT := Lib.hid hjt; clear happ hbj hjt)

  all_goals
    go_wp2_with fail
    go_ret
    exact ⟨rfl, HJT.out⟩
end Go.Proofs.Ytokblidfekbeeaa
/- The contracts of ints, write, SetTerm, Append, Cut, Sync and Bytes of the journal. -/
namespace Go.Proofs.Ytokblidfekbeeaa
open Go.ChangeShapes Go.WideShapes Go.ChangeAt Go.RowKit
set_option linter.unusedVariables false

theorem JTo.after {w w1 w' : World} {F : Nat → Prop} {j d : Nat} {xs : List UInt8} {k : Nat} {s : Js} (hf : Fr No w w1) (h : JTo w1 F j d xs k s w') : JTo w F j d xs k s w' := by
  obtain ⟨F', h1, h2, h3⟩ := h
  exact ⟨F', h1, fun i hi => (h2 i hi).imp id (Nat.le_trans hf.size), (hf.mono (G := F) fun _ hi => hi.elim).trans h3 fun i hi => .inl hi⟩

set_option maxHeartbeats 1000000 in
theorem jints_any (A0 : Option Addr) (m c0 : Nat) (q : List Int) (w : World) (B0 : Nat) (hA0 : A0 = none → m = 0) (hq : q.length = m) (hr0 : Rd w B0 A0 (q.map iv)) (hB0 : B0 ≤ w.heap.size) (hb : ∀ x ∈ q, -9223372036854775808 ≤ x ∧ x ≤ 9223372036854775807) (hsz : m ≤ 1000) :
    Calls Try.prog 85 #[.slice A0 m c0] w fun e w' => ∃ A' c', e = .returned (.slice A' (intsF q).length c') ∧ Own w' (fun i => w.heap.size ≤ i) 5 (.slice A' (intsF q).length c') ((intsF q).map bv) ∧ Fr No w w' := by
  have HA0 := Lib.hid hA0
  have HQ := Lib.hid hq
  have HR0 := Lib.hid hr0
  have HB := Lib.hid hb
  clear hA0 hq hr0 hb
  go_enter Try.func85, Try.ntmps85
  go_wp2_with fail
  go_loopw [3, 8] (fun o i wr => ∃ (A' : Option Addr) (c' k : Nat) (p : List UInt8), k ≤ m ∧ i = .int .i64 k ∧ p = intsF (q.take k) ∧ p.length ≤ 10 * k ∧ o = .slice A' p.length c' ∧ Own wr (fun i => w.heap.size ≤ i) 5 (.slice A' p.length c') (p.map bv) ∧ Fr No w wr) (fun _ i _ => m - (intOf i).toNat)
  case atStart => exact ⟨none, 0, 0, [], Nat.zero_le _, rfl, by simp [intsF], by simp, rfl, Own.nil _ _ _, Fr.refl _ _⟩
  case round =>
    obtain ⟨A', c', k, p, hk, rfl, hp, hpl, rfl, ho, hf⟩ := hrel
    have HP := Lib.hid hp
    have O3 := Lib.hid ho
    have F3 := Lib.hid hf
    have hs3 : w.heap.size ≤ wr.heap.size := hf.size
    clear hp ho hf
    by_cases hlt : k < m
    · obtain ⟨b, off, rfl, _, hc⟩ := HR0.out.at_ (by rw [List.length_map, HQ.out]; omega)
      have hkl : k < q.length := by rw [HQ.out]; exact hlt
      have hck := HR0.out.frNo F3.out hB0 |>.at_ (by rw [List.length_map, HQ.out]; omega)
      obtain ⟨b', off', hbe, _, hc'⟩ := hck
      injection hbe with hbe
      injection hbe with hb1 hb2
      subst hb1 hb2
      have hck := hc' k (by rw [List.length_map]; exact hkl)
      simp only [List.getElem_map] at hck
      have HS := Lib.hid (List.take_succ_eq_append_getElem hkl)
      have HX := Lib.hid (HB.out q[k] (List.getElem_mem hkl))
      have hen1 := encN_len10 _ (codeN_lt q[k] HX.out.1 HX.out.2)
      generalize q[k] = x at *
      clear hc hc'
      go_wp2_with fail
      refine (int_any A' p.length c' x p _ _ O3.out.len.2 rfl O3.out.rd (Nat.le_refl _) HX.out.1 HX.out.2 (by omega)).mono ?_
      rintro e w4 ⟨A4, c4, rfl, o4, f4⟩
      have O4 := Lib.hid (o4.mono (G := fun i => w.heap.size ≤ i) fun i hi => by omega)
      have F4 := Lib.hid (F3.out.transNo f4)
      clear o4 f4
      go_wp2_with fail
      go_roundw
      case rel =>
        refine ⟨A4, c4, k + 1, p ++ encN (codeN x), by omega, by go_num, by rw [HS.out, intsF_snoc, HP.out], by rw [List.length_append]; omega, ?_, ?_, F4.out⟩
        · rw [List.length_append]
        · rw [List.length_append]; exact O4.out
      case measure => simp [intOf]; omega
    · have hpe : p = intsF q := by rw [HP.out, List.take_of_length_le (by rw [HQ.out]; omega)]
      subst hpe
      go_wp2_with fail
      go_ret
      exact ⟨A', c', rfl, O3.out, F3.out⟩

set_option maxHeartbeats 2000000 in
theorem j_write {w : World} {F : Nat → Prop} {j d : Nat} {xs : List UInt8} {k : Nat} {s : Js} (h : JAt w F j d xs k s) (A : Option Addr) (m c : Nat) (r : List UInt8) (B : Nat) (hA : A = none → m = 0) (hr : Rd w B A (r.map bv)) (hm : r.length = m) (hB : B ≤ w.heap.size) (hm2 : m ≤ 65536) (hsz : xs.length + 18 + m ≤ 140737488355328) :
    Calls Try.prog 84 #[.pointer (some ⟨j, 0, none⟩), .slice A m c] w fun e w' => e = .returned (.tuple #[]) ∧ JTo w F j d (xs ++ putN 8 r) k s w' := by
  obtain ⟨A1, c1, Fd, h1, h2, h3, h4, h5, h6, h7, h8, d0, d1, d2, d3, hn⟩ := h.open_
  have hjl := h1.lt
  have hpl := putN_lenP 8 r (by omega)
  have hput := fun V (hf : Fr No w V) => put_short none 0 0 8 A m c [] r V B (fun _ => rfl) rfl (.inl rfl) hA hm (hr.frNo hf hB) (Nat.le_trans hB hf.size) (by omega) hm2
  simp only [List.nil_append] at hput
  have hdsk := fun V (hf : Fr No w V) A2 c2 B2 (h : Own V (fun i => B2 ≤ i) 5 (.slice A2 (putN 8 r).length c2) ((putN 8 r).map bv)) => disk_append V Fd d xs k (h4.frNo hf) A2 (putN 8 r).length c2 (putN 8 r) V.heap.size h.len.2 h.rd rfl (by omega)
  have hfin := fun V V' (hf : Fr No w V) (hd : DiskTo V Fd d (xs ++ putN 8 r) k V') => JAt.disk (h1.fr hf (fun h => h)) h2 (h3.frNo hf) h5 h6 h7 (fun i hi => Nat.lt_of_lt_of_le (h8 i hi) hf.size) hd
  have hcell := fun V V' (hf : Fr No w V) (hd : DiskTo V Fd d (xs ++ putN 8 r) k V') => (((h1.fr hf (fun h => h)).fr (let ⟨_, _, _, g⟩ := hd; g : Fr Fd V V') h6).cell 0 : V'.cell? ⟨j, 0, none⟩ = some (.pointer (some ⟨d, 0, none⟩)))
  have hcel0 := fun V (hf : Fr No w V) => ((h1.fr hf (fun h => h)).cell 0 : V.cell? ⟨j, 0, none⟩ = some (.pointer (some ⟨d, 0, none⟩)))
  clear h h1 h2 h3 h4 h5 h6 h7 h8 hn d1 d2 d3
  generalize putN 8 r = R at *
  have HPUT := Lib.hid hput
  have HDSK := Lib.hid hdsk
  have HFIN := Lib.hid hfin
  have HCELL := Lib.hid hcell
  have HCEL0 := Lib.hid hcel0
  clear hput hdsk hfin hcell hcel0
  go_enter Try.func84, Try.ntmps84
  go_wp2_with fail
  go_region_held3 (fun V => V.cell? ⟨j, 0, none⟩ = some (.pointer (some ⟨d, 0, none⟩))) (first | exact q2 | exact q1 | exact d0) (first
    | (go_at_call 99; refine (HPUT.out _ (Fr.refl No w).drew).mono ?_; rintro e w5 ⟨A5, c5, rfl, o5, f5⟩; have FF := Lib.hid ((Fr.refl No w).drew.transNo f5); have q1 := HCEL0.out _ FF.out; have O5 := Lib.hid o5; clear o5 f5)
    | (go_at_call 98; refine (HDSK.out _ FF.out _ _ _ O5.out).mono ?_; rintro e w6 ⟨rfl, d6⟩; have q2 := HCELL.out _ _ FF.out d6; have D6 := Lib.hid (JTo.after FF.out (HFIN.out _ _ FF.out d6)); clear d6))
  go_wp2_with fail
  go_end0
  exact ⟨rfl, D6.out⟩

theorem j_sync {w : World} {F : Nat → Prop} {j d : Nat} {xs : List UInt8} {k : Nat} {s : Js} (h : JAt w F j d xs k s) :
    Calls Try.prog 67 #[.pointer (some ⟨j, 0, none⟩)] w fun e w' => e = .returned (.tuple #[]) ∧ JTo w F j d xs xs.length s w' := by
  obtain ⟨A1, c1, Fd, h1, h2, h3, h4, h5, h6, h7, h8, d0, d1, d2, d3, hn⟩ := h.open_
  have hfin := fun V' (hd : DiskTo w Fd d xs xs.length V') => JAt.disk h1 h2 h3 h5 h6 h7 h8 hd
  have hsy := disk_sync w Fd d xs k h4
  clear h h1 h2 h3 h4 h5 h6 h7 h8 hn d1 d2 d3
  have HFIN := Lib.hid hfin
  have HSY := Lib.hid hsy
  clear hfin hsy
  go_enter Try.func67, Try.ntmps67
  go_wp2_with fail
  refine HSY.out.mono ?_
  rintro e w1 ⟨rfl, d1⟩
  have D1 := Lib.hid (HFIN.out _ d1)
  clear d1
  go_wp2_with fail
  go_end0
  exact ⟨rfl, D1.out⟩
theorem setX_bd {s : Js} {t v : Int} (h : setTermX s t v = 0) : 0 ≤ t ∧ t ≤ 1073741824 ∧ -1 ≤ v ∧ v < 5 := by
  unfold setTermX at h
  by_cases hc : t < 0 ∨ 1073741824 < t ∨ v < -1 ∨ 5 ≤ v
  · rw [if_pos hc] at h
    exact absurd h (by decide)
  · omega
theorem addX_bd {s : Js} {t : Int} {e : En} (h : addX s t e = 0) : 1 ≤ t ∧ t ≤ 1073741824 ∧ shapeB e = true ∧ t ≤ s.term ∧ termAt s.log ((s.log.length : Int) - 1) ≤ t ∧ s.log.length < 4096 := by
  unfold addX at h
  by_cases hc : t < 1 ∨ 1073741824 < t ∨ shapeB e = false
  · rw [if_pos hc] at h
    exact absurd h (by decide)
  · rw [if_neg hc] at h
    by_cases hc2 : s.term < t ∨ t < termAt s.log ((s.log.length : Int) - 1)
    · rw [if_pos hc2] at h
      exact absurd h (by decide)
    · rw [if_neg hc2] at h
      by_cases hc3 : 4096 ≤ s.log.length
      · rw [if_pos hc3] at h
        exact absurd h (by decide)
      · have hs : shapeB e = true := by
          cases hq : shapeB e
          · exact absurd (Or.inr (Or.inr hq)) hc
          · rfl
        exact ⟨by omega, by omega, hs, by omega, by omega, by omega⟩
theorem cutX_bd {s : Js} {n : Int} (h : cutX s n = 0) : 0 ≤ n ∧ n ≤ s.log.length := by
  unfold cutX at h
  by_cases hc : n < 0 ∨ (s.log.length : Int) < n
  · rw [if_pos hc] at h
    exact absurd h (by decide)
  · omega

set_option maxHeartbeats 2000000 in
theorem j_SetTerm {w : World} {F : Nat → Prop} {j d : Nat} {xs : List UInt8} {k : Nat} {s : Js} (h : JAt w F j d xs k s) (t v : Int) (hsz : xs.length + 100 ≤ 140737488355328) :
    Calls Try.prog 77 #[.pointer (some ⟨j, 0, none⟩), .int .i64 t, .int .i64 v] w fun e w' => e = .returned (.int .i64 (setTermX s t v)) ∧ JTo w F j d (if setTermX s t v = 0 then xs ++ putN 8 (recT t v) else xs) k (setTermS s t v) w' := by
  have hset := j_setTerm h t v
  have hbd := fun hx => setX_bd (s := s) (t := t) (v := v) hx
  revert hset hbd
  generalize setTermX s t v = X
  generalize setTermS s t v = S
  intro hset hbd
  clear h
  obtain ⟨Y, hY⟩ : ∃ Y, Y = if X = 0 then xs ++ putN 8 (recT t v) else xs := ⟨_, rfl⟩
  rw [← hY]
  have HSET := Lib.hid hset
  have HY := Lib.hid hY
  clear hset hY
  go_enter Try.func77, Try.ntmps77
  go_wp2_with fail
  refine HSET.out.mono ?_
  rintro e w1 ⟨rfl, j1⟩
  clear HSET
  by_cases hx : X = 0
  · subst hx
    have hb := hbd rfl
    obtain ⟨F1, a1, i1, f1⟩ := j1
    have hq : ∀ x ∈ [(1 : Int), t, v], -9223372036854775808 ≤ x ∧ x ≤ 9223372036854775807 := by
      intro x hx
      simp at hx
      omega
    have hrl := intsF_len _ hq
    simp only [List.length_cons, List.length_nil] at hrl
    clear hbd
    have A1 := Lib.hid a1
    have I1 := Lib.hid i1
    have F1 := Lib.hid f1
    have HQ := Lib.hid hq
    clear a1 i1 f1 hq
    have hy : Y = xs ++ putN 8 (intsF [1, t, v]) := by rw [HY.out, if_pos rfl]; rfl
    clear HY
    have HY := Lib.hid hy
    clear hy
    go_wp2_with fail
    refine (jints_any (some ⟨w1.heap.size, 0, none⟩) 3 3 [1, t, v] _ (w1.heap.size + 1) (fun h => by cases h) rfl (Rd.new w1 [.int .i64 1, .int .i64 t, .int .i64 v] 3 rfl) (by simp) HQ.out (by omega)).mono ?_
    rintro e w2 ⟨A2, c2, rfl, o2, f2⟩
    have F2 := Lib.hid ((fr_alloc w1 (.cells #[.int .i64 1, .int .i64 t, .int .i64 v] 3)).transNo f2)
    have O2 := Lib.hid o2
    clear o2 f2
    go_wp2_with fail
    refine (j_write (A1.out.frNo F2.out) A2 _ c2 (intsF [1, t, v]) w2.heap.size O2.out.len.2 O2.out.rd rfl (Nat.le_refl _) (by omega) (by omega)).mono ?_
    rintro e w3 ⟨rfl, j3⟩
    have J3 := Lib.hid (JTo.after F2.out j3)
    clear j3
    go_wp2_with fail
    go_ret
    refine ⟨rfl, ?_⟩
    rw [HY.out]
    obtain ⟨F', g1, g2, g3⟩ := J3.out
    exact ⟨F', g1, fun i hi => (g2 i hi).elim (fun h => I1.out i h) (fun h => .inr (Nat.le_trans F1.out.size h)), F1.out.trans g3 I1.out⟩
  · have b1 : (X == 0) = false := by simpa using hx
    have b2 : (X != 0) = true := by simpa using hx
    have hy : Y = xs := by rw [HY.out, if_neg hx]
    clear hbd HY
    have J1 := Lib.hid j1
    have HX := Lib.hid hx
    have HY := Lib.hid hy
    clear j1 hx hy
    go_wp2_with fail
    go_ret
    exact ⟨rfl, by rw [HY.out]; exact J1.out⟩

set_option maxHeartbeats 2000000 in
theorem j_Cut {w : World} {F : Nat → Prop} {j d : Nat} {xs : List UInt8} {k : Nat} {s : Js} (h : JAt w F j d xs k s) (n : Int) (hlen : s.log.length ≤ 4096) (hsz : xs.length + 100 ≤ 140737488355328) :
    Calls Try.prog 97 #[.pointer (some ⟨j, 0, none⟩), .int .i64 n] w fun e w' => e = .returned (.int .i64 (cutX s n)) ∧ JTo w F j d (if cutX s n = 0 then xs ++ putN 8 (recC n) else xs) k (cutS s n) w' := by
  have hset := j_cut h n
  have hbd := fun hx => cutX_bd (s := s) (n := n) hx
  revert hset hbd
  generalize cutX s n = X
  generalize cutS s n = S
  intro hset hbd
  clear h
  obtain ⟨Y, hY⟩ : ∃ Y, Y = if X = 0 then xs ++ putN 8 (recC n) else xs := ⟨_, rfl⟩
  rw [← hY]
  have HSET := Lib.hid hset
  have HY := Lib.hid hY
  clear hset hY
  go_enter Try.func97, Try.ntmps97
  go_wp2_with fail
  refine HSET.out.mono ?_
  rintro e w1 ⟨rfl, j1⟩
  clear HSET
  by_cases hx : X = 0
  · subst hx
    have hb := hbd rfl
    obtain ⟨F1, a1, i1, f1⟩ := j1
    have hq : ∀ x ∈ [(3 : Int), n], -9223372036854775808 ≤ x ∧ x ≤ 9223372036854775807 := by
      intro x hx
      simp at hx
      omega
    have hrl := intsF_len _ hq
    simp only [List.length_cons, List.length_nil] at hrl
    clear hbd
    have A1 := Lib.hid a1
    have I1 := Lib.hid i1
    have F1 := Lib.hid f1
    have HQ := Lib.hid hq
    clear a1 i1 f1 hq
    have hy : Y = xs ++ putN 8 (intsF [3, n]) := by rw [HY.out, if_pos rfl]; rfl
    clear HY
    have HY := Lib.hid hy
    clear hy
    go_wp2_with fail
    refine (jints_any (some ⟨w1.heap.size, 0, none⟩) 2 2 [3, n] _ (w1.heap.size + 1) (fun h => by cases h) rfl (Rd.new w1 [.int .i64 3, .int .i64 n] 3 rfl) (by simp) HQ.out (by omega)).mono ?_
    rintro e w2 ⟨A2, c2, rfl, o2, f2⟩
    have F2 := Lib.hid ((fr_alloc w1 (.cells #[.int .i64 3, .int .i64 n] 3)).transNo f2)
    have O2 := Lib.hid o2
    clear o2 f2
    go_wp2_with fail
    refine (j_write (A1.out.frNo F2.out) A2 _ c2 (intsF [3, n]) w2.heap.size O2.out.len.2 O2.out.rd rfl (Nat.le_refl _) (by omega) (by omega)).mono ?_
    rintro e w3 ⟨rfl, j3⟩
    have J3 := Lib.hid (JTo.after F2.out j3)
    clear j3
    go_wp2_with fail
    go_ret
    refine ⟨rfl, ?_⟩
    rw [HY.out]
    obtain ⟨F', g1, g2, g3⟩ := J3.out
    exact ⟨F', g1, fun i hi => (g2 i hi).elim (fun h => I1.out i h) (fun h => .inr (Nat.le_trans F1.out.size h)), F1.out.trans g3 I1.out⟩
  · have b1 : (X == 0) = false := by simpa using hx
    have b2 : (X != 0) = true := by simpa using hx
    have hy : Y = xs := by rw [HY.out, if_neg hx]
    clear hbd HY
    have J1 := Lib.hid j1
    have HX := Lib.hid hx
    have HY := Lib.hid hy
    clear j1 hx hy
    go_wp2_with fail
    go_ret
    exact ⟨rfl, by rw [HY.out]; exact J1.out⟩
end Go.Proofs.Ytokblidfekbeeaa
/- The contract of Append of the journal. -/
namespace Go.Proofs.Ytokblidfekbeeaa
open Go.ChangeShapes Go.WideShapes Go.ChangeAt Go.RowKit
set_option linter.unusedVariables false

set_option maxRecDepth 100000 in
set_option maxHeartbeats 4000000 in
theorem j_Append {w : World} {F : Nat → Prop} {j d : Nat} {xs : List UInt8} {k : Nat} {s : Js} (h : JAt w F j d xs k s) (hlen : s.log.length ≤ 4096) (t : Int) (e : En) (he : e.ok) (hsz : xs.length + 200 ≤ 140737488355328) :
    Calls Try.prog 66 #[.pointer (some ⟨j, 0, none⟩), .int .i64 t, e.v] w fun r w' => r = .returned (.int .i64 (addX s t e)) ∧ JTo w F j d (if addX s t e = 0 then xs ++ putN 8 (recE t e) else xs) k (addS s t e) w' := by
  obtain ⟨i0, hi0, hz0, hz1, hz2⟩ := info_parts bytes_info
  have hadd := fun W (hf : Fr No w W) => j_add (h.frNo hf) hlen t e
  have hbd := fun hx => addX_bd (s := s) (t := t) (e := e) hx
  have hlt := h.lt
  have hby := fun V => bytes_any e V he
  have hbl := enB_len e he
  obtain ⟨X, hX⟩ : ∃ X, X = addX s t e := ⟨_, rfl⟩
  obtain ⟨S, hS⟩ : ∃ S, S = addS s t e := ⟨_, rfl⟩
  rw [← hX] at hbd
  simp only [← hX, ← hS] at hadd
  rw [← hX, ← hS]
  clear hX hS h he
  obtain ⟨Y, hY⟩ : ∃ Y, Y = if X = 0 then xs ++ putN 8 (recE t e) else xs := ⟨_, rfl⟩
  rw [← hY]
  unfold recE at hY
  generalize enB e = EB at *
  obtain ⟨k0, tick, te, ce, ot, ep, fr, un, n⟩ := e
  unfold En.v at *
  have BB := Lib.hid (Blk.new w TEnt #[.int .i64 k0, .int .i64 tick, .int .i64 te, .int .i64 ce, .int .i64 ot, .int .i64 ep, .int .i64 fr, .int .i64 un, .int .i64 n])
  have FF := Lib.hid (fr_alloc w (.cells #[.int .i64 k0, .int .i64 tick, .int .i64 te, .int .i64 ce, .int .i64 ot, .int .i64 ep, .int .i64 fr, .int .i64 un, .int .i64 n] TEnt))
  obtain ⟨c0, c1, c2, c3, c4, c5, c6, c7, c8⟩ := ent_cells BB.out
  obtain ⟨W0, hW0⟩ : ∃ W0, W0 = w.alloc (.cells #[.int .i64 k0, .int .i64 tick, .int .i64 te, .int .i64 ce, .int .i64 ot, .int .i64 ep, .int .i64 fr, .int .i64 un, .int .i64 n] TEnt) := ⟨_, rfl⟩
  have hs0 : W0.heap.size = w.heap.size + 1 := by rw [hW0]; simp
  have HADD := Lib.hid hadd
  have HY := Lib.hid hY
  have HBY := Lib.hid hby
  have HLT := Lib.hid hlt
  clear hadd hY hby hlt
  go_enter Try.func66, Try.ntmps66
  go_wp2_with fail
  rw [← hW0] at BB FF ⊢
  refine (HADD.out _ FF.out).mono ?_
  rintro r W ⟨rfl, j1⟩
  clear HADD c0 c1 c2 c3 c4 c5 c6 c7 c8 hW0
  by_cases hx : X = 0
  · subst hx
    have hb := hbd rfl
    obtain ⟨G1, a1, i1, f1⟩ := j1
    obtain ⟨g, hg⟩ : ∃ g, g = w.heap.size := ⟨_, rfl⟩
    rw [← hg] at BB ⊢
    have hg1 : ¬ G1 g := by
      intro hh
      rcases i1 g hh with h | h
      · have := HLT.out g h
        omega
      · omega
    have hg0 : ¬ F g := by
      intro hh
      have := HLT.out g hh
      omega
    have b5 : Blk W g TEnt #[.int .i64 k0, .int .i64 tick, .int .i64 te, .int .i64 ce, .int .i64 ot, .int .i64 ep, .int .i64 fr, .int .i64 un, .int .i64 n] := BB.out.fr f1 hg0
    have hq : ∀ x ∈ [(2 : Int), t], -9223372036854775808 ≤ x ∧ x ≤ 9223372036854775807 := by
      intro x hx
      simp at hx
      omega
    have hrl := intsF_len _ hq
    simp only [List.length_cons, List.length_nil] at hrl
    have hS : ∀ V, Fr G1 W V → V.cell? ⟨g, 0, none⟩ = some (.int .i64 k0) ∧ V.cell? ⟨g, 1, none⟩ = some (.int .i64 tick) ∧ V.cell? ⟨g, 2, none⟩ = some (.int .i64 te) ∧ V.cell? ⟨g, 3, none⟩ = some (.int .i64 ce) ∧ V.cell? ⟨g, 4, none⟩ = some (.int .i64 ot) ∧ V.cell? ⟨g, 5, none⟩ = some (.int .i64 ep) ∧ V.cell? ⟨g, 6, none⟩ = some (.int .i64 fr) ∧ V.cell? ⟨g, 7, none⟩ = some (.int .i64 un) ∧ V.cell? ⟨g, 8, none⟩ = some (.int .i64 n) := fun V hV => ⟨(b5.fr hV hg1).cell 0, (b5.fr hV hg1).cell 1, (b5.fr hV hg1).cell 2, (b5.fr hV hg1).cell 3, (b5.fr hV hg1).cell 4, (b5.fr hV hg1).cell 5, (b5.fr hV hg1).cell 6, (b5.fr hV hg1).cell 7, (b5.fr hV hg1).cell 8⟩
    have hy : Y = xs ++ putN 8 (intsF [2, t] ++ EB) := by rw [HY.out, if_pos rfl]
    have f2 := FF.out
    clear hbd HY BB b5 hg1 hg0 hg FF
    have A1 := Lib.hid a1
    have I1 := Lib.hid i1
    have F1 := Lib.hid f1
    have HQ := Lib.hid hq
    have HS := Lib.hid hS
    have HY := Lib.hid hy
    have F2 := Lib.hid f2
    clear a1 i1 f1 hq hS hy f2
    have HSS := HS
    go_wp2_with fail
    generalize hIN : intsF [2, t] = IN at *
    refine wp_region_held_drew (S := fun V => V.cell? ⟨g, 0, none⟩ = some (.int .i64 k0) ∧ V.cell? ⟨g, 1, none⟩ = some (.int .i64 tick) ∧ V.cell? ⟨g, 2, none⟩ = some (.int .i64 te) ∧ V.cell? ⟨g, 3, none⟩ = some (.int .i64 ce) ∧ V.cell? ⟨g, 4, none⟩ = some (.int .i64 ot) ∧ V.cell? ⟨g, 5, none⟩ = some (.int .i64 ep) ∧ V.cell? ⟨g, 6, none⟩ = some (.int .i64 fr) ∧ V.cell? ⟨g, 7, none⟩ = some (.int .i64 un) ∧ V.cell? ⟨g, 8, none⟩ = some (.int .i64 n)) (by kernel_rfl) (HSS.out _ ((Fr.refl G1 W).drew)) (fun hHeld => ?_)
    refine wpAnyH_take (i := 0) (v := ?_) rfl (by kernel_rfl) (by kernel_rfl) (by kernel_rfl) (fun _ _ _ h => h) (Or.inl ⟨by rfl, ?_⟩) (by assumption) ?_
    rotate_left
    · (intro w hSw; (try dsimp only at hSw); go_simp) <;> with_reducible rfl
    simp only [Act.put, List.setIfInBounds_toArray, List.set_cons_zero, List.set_cons_succ, List.getElem_toArray, List.getElem_cons_zero]
    refine wpAnyH_take (i := 1) (v := ?_) rfl (by kernel_rfl) (by kernel_rfl) (by kernel_rfl) (fun _ _ _ h => h) (Or.inl ⟨by rfl, ?_⟩) (by assumption) ?_
    rotate_left
    · (intro w hSw; (try dsimp only at hSw); go_simp) <;> with_reducible rfl
    simp only [Act.put, List.setIfInBounds_toArray, List.set_cons_zero, List.set_cons_succ, List.getElem_toArray, List.getElem_cons_zero, List.getElem_cons_succ]
    refine wpAnyH_take (i := 4) (v := ?_) rfl (by kernel_rfl) (by kernel_rfl) (by kernel_rfl) (fun _ _ _ h => h) (Or.inl ⟨by rfl, ?_⟩) (by assumption) ?_
    rotate_left
    · (intro w hSw; (try dsimp only at hSw); go_simp) <;> with_reducible rfl
    simp only [Act.put, List.setIfInBounds_toArray, List.set_cons_zero, List.set_cons_succ, List.getElem_toArray, List.getElem_cons_zero, List.getElem_cons_succ]
    refine wpAnyH_ready (rs := [2]) (by kernel_rfl) (by simp) (AllReadyH.cons rfl (fun K hK => ?_) AllReadyH.nil)
    go_simp
    clear hHeld
    refine hK.out _ _ (HSS.out _ (((Fr.refl G1 W).drew).alloc _)) (fun hHeld => ?_)
    clear hK K
    try simp only [Act.put, List.setIfInBounds_toArray, List.set_cons_zero, List.set_cons_succ, List.getElem_toArray, List.getElem_cons_zero, List.getElem_cons_succ]
    refine wpAnyH_ready (rs := [3]) (by kernel_rfl) (by simp) (AllReadyH.cons rfl (fun K hK => ?_) AllReadyH.nil)
    go_simp
    refine (jints_any (some ⟨W.heap.size, 0, none⟩) 2 2 [2, t] _ (W.heap.size + 1) (fun h => by cases h) rfl (Rd.new W.drew [.int .i64 2, .int .i64 t] 3 rfl) (by simp) HQ.out (by omega)).mono ?_
    rintro e w4 ⟨A4, d4, rfl, o4, f4⟩
    rw [hIN] at o4 ⊢
    have q4 := Lib.hid ((((Fr.refl No W).drew).alloc (.cells #[.int .i64 2, .int .i64 t] 3)).transNo f4)
    have O4 := Lib.hid (o4.mono (G := fun i => W.heap.size ≤ i) fun i hi => by simp at hi; omega)
    clear o4 f4
    go_wp2_with fail
    clear hHeld
    refine hK.out _ _ (HSS.out _ (q4.out.mono fun _ h => h.elim)) (fun hHeld => ?_)
    clear hK K
    try simp only [Act.put, List.setIfInBounds_toArray, List.set_cons_zero, List.set_cons_succ, List.getElem_toArray, List.getElem_cons_zero, List.getElem_cons_succ]
    refine wpAnyH_ready (rs := [5]) (by kernel_rfl) (by simp) (AllReadyH.cons rfl (fun K hK => ?_) AllReadyH.nil)
    go_simp
    refine (HBY.out _).mono ?_
    rintro e w5 ⟨A5, d5, rfl, o5, f5⟩
    have q5 := Lib.hid (q4.out.transNo f5)
    have P4 := Lib.hid (O4.out.frNo f5)
    have O5 := Lib.hid o5
    clear o5 f5 q4 O4
    go_wp2_with fail
    clear hHeld
    refine hK.out _ _ (HSS.out _ (q5.out.mono fun _ h => h.elim)) (fun hHeld => ?_)
    clear hK K
    try simp only [Act.put, List.setIfInBounds_toArray, List.set_cons_zero, List.set_cons_succ, List.getElem_toArray, List.getElem_cons_zero, List.getElem_cons_succ]
    refine wpAnyH_ready (rs := [6]) (by kernel_rfl) (by simp) (AllReadyH.cons rfl (fun K hK => ?_) AllReadyH.nil)
    refine step_append_rd _ (by rfl) (.tmp 18) (.tmp 20) _ (by rfl) 0 5 i0 _ 1 Try.underlying116 hi0 hz0 hz1 hz2 rfl (.slice A4 IN.length d4) IN.length (IN.map bv) (by rfl) (P4.out.own (by rw [List.length_map])) w5.heap.size A5 EB.length d5 (EB.map bv) (by rfl) O5.out.len.2 O5.out.rd (by rw [List.length_map]) (bv_one _) (by unfold maxLen; omega) (by omega) (Nat.zero_le _) ?_
    intro v6 w6 happ
    obtain ⟨o6, f6⟩ := P4.out.appended (by rw [List.length_map]) (by rw [List.length_map]) happ
    rw [← List.map_append] at o6
    obtain ⟨A6, d6, rfl, n6⟩ := o6.form
    rw [List.length_map, List.length_append] at o6 ⊢
    have q6 := Lib.hid (q5.out.transNew f6 fun i hi => hi)
    have O6 := Lib.hid o6
    clear happ o6 f6 n6 P4 O5 q5 hHeld
    refine hK.out _ _ (HSS.out _ (q6.out.mono fun _ h => h.elim)) (fun hHeld => ?_)
    clear hK K
    try simp only [Act.put, List.setIfInBounds_toArray, List.set_cons_zero, List.set_cons_succ, List.getElem_toArray, List.getElem_cons_zero, List.getElem_cons_succ]
    refine wpAnyH_ready (rs := [7]) (by kernel_rfl) (by simp) (AllReadyH.cons rfl (fun K hK => ?_) AllReadyH.nil)
    go_simp
    refine (j_write (A1.out.frNo q6.out) A6 (IN.length + EB.length) d6 (IN ++ EB) w6.heap.size O6.out.len.2 O6.out.rd List.length_append (Nat.le_refl _) (by omega) (by omega)).mono ?_
    rintro e w7 ⟨rfl, j7⟩
    have q7 : Hid (Fr G1 W w7) := Lib.hid (let ⟨_, _, _, g⟩ := JTo.after q6.out j7; g)
    have J7 := Lib.hid (JTo.after q6.out j7)
    clear j7
    go_wp2_with fail
    clear hHeld
    refine hK.out _ _ (HSS.out _ q7.out) (fun hHeld => ?_)
    clear hK K
    try simp only [Act.put, List.setIfInBounds_toArray, List.set_cons_zero, List.set_cons_succ, List.getElem_toArray, List.getElem_cons_zero, List.getElem_cons_succ]
    refine wpAnyH_done (by kernel_rfl) ?_ _
    go_wp2_with fail
    go_ret
    refine ⟨rfl, ?_⟩
    rw [HY.out]
    obtain ⟨F', g1, g2, g3⟩ := J7.out
    refine JTo.after F2.out ⟨F', g1, fun i hi => (g2 i hi).elim (fun h => I1.out i h) (fun h => .inr (Nat.le_trans F1.out.size h)), F1.out.trans g3 I1.out⟩
  · have b1 : (X == 0) = false := by simpa using hx
    have b2 : (X != 0) = true := by simpa using hx
    have hy : Y = xs := by rw [HY.out, if_neg hx]
    have j2 := JTo.after FF.out j1
    clear hbd HY j1 FF BB
    have J2 := Lib.hid j2
    have HX := Lib.hid hx
    have HY := Lib.hid hy
    clear j2 hx hy
    go_wp2_with fail
    go_ret
    exact ⟨rfl, by rw [HY.out]; exact J2.out⟩
end Go.Proofs.Ytokblidfekbeeaa
/- The contracts of take and replay of the journal. -/
namespace Go.Proofs.Ytokblidfekbeeaa
open Go.ChangeShapes Go.WideShapes Go.ChangeAt Go.RowKit
set_option linter.unusedVariables false

theorem jtake_no (A : Option Addr) (n c : Nat) (l : List UInt8) (w : World) (B : Nat) (hl : l.length = n) (hm : n ≤ maxLen) (hr : Rd w B A (l.map bv)) (h : tkJ l = none) :
    Calls Try.prog 103 #[.slice A n c] w fun e w' => e = .returned (.tuple #[.int .i64 0, .slice none 0 0, .bool false]) ∧ w = w' := by
  have hC := take_any A n c l w B hl hm hr
  unfold tkJ at h
  revert hC h
  generalize takN l = t
  intro h hC
  obtain ⟨tn, tk, te⟩ := t
  simp only at h
  have h1 : te ≠ 0 := by
    intro he
    rw [if_pos he] at h
    cases h
  have b1 : (te == 0) = false := by simp [h1]
  have b2 : (te != 0) = true := by simp [h1]
  clear h h1 hl hm hr
  have HC := Lib.hid hC
  clear hC
  go_enter Try.func103, Try.ntmps103
  go_wp2_with fail
  refine HC.out.mono ?_
  rintro e w1 ⟨rfl, rfl⟩
  go_wp2_with fail
  go_ret3
  exact ⟨rfl, rfl⟩

set_option maxHeartbeats 1000000 in
theorem jtake_yes (A : Option Addr) (n c : Nat) (l : List UInt8) (w : World) (B : Nat) (hA : A = none → n = 0) (hl : l.length = n) (hm : n ≤ maxLen) (hnc : n ≤ c) (hr : Rd w B A (l.map bv)) (x : Int) (q : List UInt8) (h : tkJ l = some (x, q)) :
    Calls Try.prog 103 #[.slice A n c] w fun e w' => ∃ A' c', e = .returned (.tuple #[.int .i64 x, .slice A' q.length c', .bool true]) ∧ (A' = none → q.length = 0) ∧ q.length ≤ c' ∧ Rd w' B A' (q.map bv) ∧ Fr No w w' := by
  obtain ⟨u0, hu0, gz0, gz1, gz2⟩ := info_parts bytes_info
  have hC := take_any A n c l w B hl hm hr
  have hk := takN_k l
  unfold tkJ at h
  revert hC h hk
  generalize takN l = t
  intro h hC hk
  obtain ⟨tn, tk, te⟩ := t
  simp only at h hk
  have h1 : te = 0 := by
    rcases Decidable.em (te = 0) with he | he
    · exact he
    · rw [if_neg he] at h
      cases h
  subst h1
  simp only [if_true, Option.some.injEq, Prod.mk.injEq] at h
  obtain ⟨rfl, rfl⟩ := h
  have hk1 := hk rfl
  rw [hl] at hk1
  obtain ⟨A2, hs2, hn2, hr2⟩ := run_from (P := Try.prog) 116 5 Try.underlying116 u0 hu0 gz1 A n c tk hk1 hA
  have hr3 := hr2 w B (l.map bv) (by rw [List.length_map, hl]; exact hnc) hr
  rw [← List.map_drop] at hr3
  have hql : (l.drop tk).length = n - tk := by rw [List.length_drop, hl]
  clear hk hr2 hr hl hA
  unfold maxLen at hm
  have HC := Lib.hid hC
  have HR3 := Lib.hid hr3
  have HQL := Lib.hid hql
  have HN2 := Lib.hid hn2
  clear hC hr3 hql hn2
  go_enter Try.func103, Try.ntmps103
  go_wp2_with fail
  refine HC.out.mono ?_
  rintro e w1 ⟨rfl, rfl⟩
  go_wp2_with fail
  go_region
  all_goals
    go_wp2_with fail
    go_ret3
    refine ⟨A2, c - tk, by rw [HQL.out]; rfl, by rw [HQL.out]; exact HN2.out, by rw [HQL.out]; omega, HR3.out, (Fr.refl _ _).drew⟩

theorem setTermS_no {s : Js} {t v : Int} (h : setTermX s t v ≠ 0) : setTermS s t v = s := by unfold setTermS; rw [if_neg h]
theorem addS_no {s : Js} {t : Int} {e : En} (h : addX s t e ≠ 0) : addS s t e = s := by unfold addS; rw [if_neg h]
theorem cutS_no {s : Js} {n : Int} (h : cutX s n ≠ 0) : cutS s n = s := by unfold cutS; rw [if_neg h]

/-- What replay leaves. -/
def RepTo (w : World) (F : Nat → Prop) (j d : Nat) (xs : List UInt8) (k : Nat) (s : Js) (R : Option Js) (e : Ending) (w' : World) : Prop := e = .returned (.bool R.isSome) ∧ JTo w F j d xs k (R.getD s) w'

set_option maxRecDepth 100000 in
set_option maxHeartbeats 4000000 in
theorem j_replay {w : World} {F : Nat → Prop} {j d : Nat} {xs : List UInt8} {k : Nat} {s : Js} (h : JAt w F j d xs k s) (hlen : s.log.length ≤ 4096) (A : Option Addr) (m c : Nat) (r : List UInt8) (B : Nat) (hA : A = none → m = 0) (hl : r.length = m) (hm : m ≤ maxLen) (hnc : m ≤ c) (hr : Rd w B A (r.map bv)) (hB : B ≤ w.heap.size) :
    Calls Try.prog 91 #[.pointer (some ⟨j, 0, none⟩), .slice A m c] w (RepTo w F j d xs k s (replayJ s r)) := by
  obtain ⟨R, hR⟩ : ∃ R, R = replayJ s r := ⟨_, rfl⟩
  rw [← hR]
  unfold replayJ at hR
  have hno := fun W (hf : Fr No w W) => h.still hf
  have hM := hm
  unfold maxLen at hm
  cases ht1 : tkJ r with
  | none =>
    rw [ht1] at hR
    subst hR
    have hT := jtake_no A m c r w B hl hM hr ht1
    clear ht1 hr
    have HT := Lib.hid hT
    have HNO := Lib.hid hno
    clear hT hno
    go_enter Try.func91, Try.ntmps91
    go_wp2_with fail
    refine HT.out.mono ?_
    rintro e w1 ⟨rfl, rfl⟩
    go_wp2_with fail
    go_ret
    exact ⟨ret_bool rfl, HNO.out _ (Fr.refl _ _)⟩
  | some kp =>
    obtain ⟨kd, p⟩ := kp
    rw [ht1] at hR
    have hT := jtake_yes A m c r w B hA hl hM hnc hr kd p ht1
    have hpl : p.length ≤ m := by
      unfold tkJ at ht1
      split at ht1
      · simp only [Option.some.injEq, Prod.mk.injEq] at ht1
        rw [← ht1.2, List.length_drop]
        omega
      · cases ht1
    simp only at hR
    clear ht1 hr hA hnc hl
    cases ht2 : tkJ p with
    | none =>
      rw [ht2] at hR
      subst hR
      have HT := Lib.hid hT
      have HNO := Lib.hid hno
      clear hT hno
      go_enter Try.func91, Try.ntmps91
      go_wp2_with fail
      refine HT.out.mono ?_
      rintro e w1 ⟨A1, c1, rfl, n1, k1, r1, f1⟩
      have hT2 := jtake_no A1 p.length c1 p w1 B rfl (by unfold maxLen; omega) r1 ht2
      clear HT n1 k1 r1
      have HT2 := Lib.hid hT2
      have F1 := Lib.hid f1
      clear hT2 f1
      go_wp2_with fail
      refine HT2.out.mono ?_
      rintro e w2 ⟨rfl, rfl⟩
      go_wp2_with fail
      go_ret
      exact ⟨ret_bool rfl, HNO.out _ F1.out⟩
    | some nq =>
      obtain ⟨n, q⟩ := nq
      rw [ht2] at hR
      simp only at hR
      have hql : q.length ≤ p.length := by
        unfold tkJ at ht2
        split at ht2
        · simp only [Option.some.injEq, Prod.mk.injEq] at ht2
          rw [← ht2.2, List.length_drop]
          omega
        · cases ht2
      have HT := Lib.hid hT
      have HNO := Lib.hid hno
      have HR := Lib.hid hR
      clear hT hno hR
      go_enter Try.func91, Try.ntmps91
      go_wp2_with fail
      refine HT.out.mono ?_
      rintro e w1 ⟨A1, c1, rfl, n1, k1, r1, f1⟩
      have hT2 := jtake_yes A1 p.length c1 p w1 B n1 rfl (by unfold maxLen; omega) k1 r1 n q ht2
      clear HT n1 k1 r1 ht2
      have HT2 := Lib.hid hT2
      have F1 := Lib.hid f1
      clear hT2 f1
      go_wp2_with fail
      refine HT2.out.mono ?_
      rintro e w2 ⟨A2, c2, rfl, n2, k2, r2, f2⟩
      replace F1 := Lib.hid (F1.out.transNo f2)
      have hR := HR.out
      have hBw := Nat.le_trans hB F1.out.size
      unfold replayB at hR
      clear HT2 f2 HR
      have haft := fun w3 s' (hj : JTo w2 F j d xs k s' w3) => JTo.after F1.out hj
      by_cases e1 : kd = 1
      · subst e1
        rw [if_pos rfl] at hR
        cases ht3 : tkJ q with
        | none =>
          rw [ht3] at hR
          subst hR
          have hT3 := jtake_no A2 q.length c2 q w2 B rfl (by unfold maxLen; omega) r2 ht3
          clear n2 k2 r2 haft h
          have HT3 := Lib.hid hT3
          clear hT3
          go_wp2_with fail
          refine HT3.out.mono ?_
          rintro e w3 ⟨rfl, rfl⟩
          go_wp2_with fail
          go_ret
          exact ⟨ret_bool rfl, HNO.out _ F1.out⟩
        | some vq =>
          obtain ⟨v, q2⟩ := vq
          rw [ht3] at hR
          simp only at hR
          have hT3 := jtake_yes A2 q.length c2 q w2 B n2 rfl (by unfold maxLen; omega) k2 r2 v q2 ht3
          clear ht3 n2 k2 r2
          have hset := fun w3 (hf : Fr No w w3) => j_setTerm (h.frNo hf) n v
          clear h haft
          by_cases e2 : q2 = []
          · subst e2
            simp only [true_and] at hR
            have hsn := fun hx => setTermS_no (s := s) (t := n) (v := v) hx
            generalize hXX : setTermX s n v = X at *
            generalize hYY : setTermS s n v = S at *
            clear hXX hYY
            have HT3 := Lib.hid hT3
            have HSET := Lib.hid hset
            have HR := Lib.hid hR
            have HSN := Lib.hid hsn
            clear hT3 hset hR hsn
            go_wp2_with fail
            refine HT3.out.mono ?_
            rintro e w3 ⟨A3, c3, rfl, n3, k3, r3, f3⟩
            replace F1 := Lib.hid (F1.out.transNo f3)
            clear n3 k3 r3 f3 HT3
            go_wp2_with fail
            refine (HSET.out _ F1.out).mono ?_
            rintro e w4 ⟨rfl, j4⟩
            have J4 := Lib.hid (JTo.after F1.out j4)
            clear j4
            have hR := HR.out
            clear HR
            by_cases hx : X = 0
            · rw [if_pos hx] at hR
              subst hR hx
              go_wp2_with fail
              go_ret
              exact ⟨ret_bool rfl, J4.out⟩
            · rw [if_neg hx] at hR
              subst hR
              have b9 : (X == 0) = false := by simpa using hx
              have HXX := Lib.hid hx
              clear hx
              go_wp2_with fail
              go_ret
              refine ⟨ret_bool rfl, ?_⟩
              have hx := HXX.out
              have := J4.out
              rw [HSN.out hx] at this
              exact this
          · rw [if_neg (fun hh => e2 hh.1)] at hR
            subst hR
            have hq2 : (q2.length == 0) = false := by simpa using e2
            have hq3 : ((q2.length : Int) == 0) = false := by simpa using e2
            clear hset
            have HT3 := Lib.hid hT3
            have E2 := Lib.hid e2
            clear hT3 e2
            go_wp2_with fail
            refine HT3.out.mono ?_
            rintro e w3 ⟨A3, c3, rfl, n3, k3, r3, f3⟩
            replace F1 := Lib.hid (F1.out.transNo f3)
            clear n3 k3 r3 f3 HT3
            go_wp2_with fail
            go_ret
            exact ⟨ret_bool rfl, HNO.out _ F1.out⟩
      · have t1 : (kd == 1) = false := by simpa using e1
        rw [if_neg e1] at hR
        by_cases e2 : kd = 2
        · subst e2
          rw [if_pos rfl] at hR
          have hT3 := read_any A2 q.length c2 q w2 B n2 rfl (by unfold maxLen; omega) k2 r2 hBw
          clear n2 k2 r2 haft e1
          have hadd := fun w3 (hf : Fr No w w3) (en : En) => j_add (h.frNo hf) hlen n en
          clear h
          generalize hTT : readE q = T at *
          clear hTT
          obtain ⟨en, tk, tx⟩ := T
          simp only at hR
          by_cases e3 : tx = 0
          · subst e3
            by_cases e4 : tk = q.length
            · subst e4
              simp only [true_and] at hR
              have hsn := fun hx => addS_no (s := s) (t := n) (e := en) hx
              replace hadd := fun w3 (hf : Fr No w w3) => hadd w3 hf en
              generalize hXX : addX s n en = X at *
              generalize hYY : addS s n en = S at *
              clear hXX hYY
              unfold RdTo at hT3
              simp only at hT3
              obtain ⟨k0, tick, te, ce, ot, ep, fr, un, n0⟩ := en
              unfold En.v at hT3 hadd
              have HT3 := Lib.hid hT3
              have HADD := Lib.hid hadd
              have HR := Lib.hid hR
              have HSN := Lib.hid hsn
              clear hT3 hadd hR hsn
              go_wp2_with fail
              refine HT3.out.mono ?_
              rintro e w3 ⟨rfl, f3⟩
              replace F1 := Lib.hid ((F1.out.transNo f3).alloc (.cells #[.int .i64 k0, .int .i64 tick, .int .i64 te, .int .i64 ce, .int .i64 ot, .int .i64 ep, .int .i64 fr, .int .i64 un, .int .i64 n0] TEnt))
              clear f3 HT3
              go_wp2_with fail
              refine (HADD.out _ F1.out).mono ?_
              rintro e w4 ⟨rfl, j4⟩
              have J4 := Lib.hid (JTo.after F1.out j4)
              clear j4
              have hR := HR.out
              clear HR
              by_cases hx : X = 0
              · rw [if_pos hx] at hR
                subst hR hx
                go_wp2_with fail
                go_ret
                exact ⟨ret_bool rfl, J4.out⟩
              · rw [if_neg hx] at hR
                subst hR
                have b9 : (X == 0) = false := by simpa using hx
                have HXX := Lib.hid hx
                clear hx
                go_wp2_with fail
                go_ret
                refine ⟨ret_bool rfl, ?_⟩
                have hx := HXX.out
                have := J4.out
                rw [HSN.out hx] at this
                exact this
            · rw [if_neg (fun hh => e4 hh.2.1)] at hR
              subst hR
              have t4 : ((tk : Int) == (q.length : Int)) = false := by simp; omega
              clear hadd
              unfold RdTo at hT3
              simp only at hT3
              obtain ⟨k0, tick, te, ce, ot, ep, fr, un, n0⟩ := en
              unfold En.v at hT3
              have HT3 := Lib.hid hT3
              have E4 := Lib.hid e4
              clear hT3 e4
              go_wp2_with fail
              refine HT3.out.mono ?_
              rintro e w3 ⟨rfl, f3⟩
              replace F1 := Lib.hid ((F1.out.transNo f3).alloc (.cells #[.int .i64 k0, .int .i64 tick, .int .i64 te, .int .i64 ce, .int .i64 ot, .int .i64 ep, .int .i64 fr, .int .i64 un, .int .i64 n0] TEnt))
              clear f3 HT3
              go_wp2_with fail
              go_ret
              exact ⟨ret_bool rfl, HNO.out _ F1.out⟩
          · rw [if_neg (fun hh => e3 hh.1)] at hR
            subst hR
            have t4 : (tx == 0) = false := by simpa using e3
            clear hadd
            unfold RdTo at hT3
            simp only at hT3
            obtain ⟨k0, tick, te, ce, ot, ep, fr, un, n0⟩ := en
            unfold En.v at hT3
            have HT3 := Lib.hid hT3
            have E3 := Lib.hid e3
            clear hT3 e3
            go_wp2_with fail
            refine HT3.out.mono ?_
            rintro e w3 ⟨rfl, f3⟩
            replace F1 := Lib.hid ((F1.out.transNo f3).alloc (.cells #[.int .i64 k0, .int .i64 tick, .int .i64 te, .int .i64 ce, .int .i64 ot, .int .i64 ep, .int .i64 fr, .int .i64 un, .int .i64 n0] TEnt))
            clear f3 HT3
            go_wp2_with fail
            go_ret
            exact ⟨ret_bool rfl, HNO.out _ F1.out⟩
        · have t2 : (kd == 2) = false := by simpa using e2
          rw [if_neg e2] at hR
          by_cases e3 : kd = 3
          · subst e3
            rw [if_pos rfl] at hR
            clear n2 k2 r2 haft e1 e2
            have hcut := fun w3 (hf : Fr No w w3) => j_cut (h.frNo hf) n
            clear h
            by_cases e4 : q = []
            · subst e4
              simp only [true_and] at hR
              have hsn := fun hx => cutS_no (s := s) (n := n) hx
              generalize hXX : cutX s n = X at *
              generalize hYY : cutS s n = S at *
              clear hXX hYY
              have HCUT := Lib.hid hcut
              have HR := Lib.hid hR
              have HSN := Lib.hid hsn
              clear hcut hR hsn
              go_wp2_with fail
              refine (HCUT.out _ F1.out).mono ?_
              rintro e w4 ⟨rfl, j4⟩
              have J4 := Lib.hid (JTo.after F1.out j4)
              clear j4
              have hR := HR.out
              clear HR
              by_cases hx : X = 0
              · rw [if_pos hx] at hR
                subst hR hx
                go_wp2_with fail
                go_ret
                exact ⟨ret_bool rfl, J4.out⟩
              · rw [if_neg hx] at hR
                subst hR
                have b9 : (X == 0) = false := by simpa using hx
                have HXX := Lib.hid hx
                clear hx
                go_wp2_with fail
                go_ret
                refine ⟨ret_bool rfl, ?_⟩
                have hx := HXX.out
                have := J4.out
                rw [HSN.out hx] at this
                exact this
            · rw [if_neg (fun hh => e4 hh.1)] at hR
              subst hR
              have hq3 : ((q.length : Int) == 0) = false := by simpa using e4
              clear hcut
              have E4 := Lib.hid e4
              clear e4
              go_wp2_with fail
              go_ret
              exact ⟨ret_bool rfl, HNO.out _ F1.out⟩
          · have t3 : (kd == 3) = false := by simpa using e3
            rw [if_neg e3] at hR
            subst hR
            clear n2 k2 r2 haft h
            go_wp2_with fail
            go_ret
            exact ⟨ret_bool rfl, HNO.out _ F1.out⟩
end Go.Proofs.Ytokblidfekbeeaa
/- The contract of Crash of the journal. -/
namespace Go.Proofs.Ytokblidfekbeeaa
open Go.ChangeShapes Go.WideShapes Go.ChangeAt Go.RowKit
set_option linter.unusedVariables false

theorem replayJ_len {s s' : Js} {r : List UInt8} (h : replayJ s r = some s') (hl : s.log.length ≤ 4096) : s'.log.length ≤ 4096 := by
  unfold replayJ at h
  split at h
  · cases h
  · split at h
    · cases h
    · unfold replayB at h
      split at h
      · split at h
        · cases h
        · split at h
          · rename_i hc
            injection h with h
            subst h
            unfold setTermS
            rw [if_pos hc.2]
            exact hl
          · cases h
      · split at h
        · split at h
          · rename_i hc
            injection h with h
            subst h
            have := addX_bd hc.2.2
            unfold addS
            rw [if_pos hc.2.2]
            simp
            omega
          · cases h
        · split at h
          · split at h
            · rename_i hc
              injection h with h
              subst h
              unfold cutS
              rw [if_pos hc.2]
              simp
              omega
            · cases h
          · cases h

/-- Term, vote and log are forgotten. -/
theorem JAt.forget {w : World} {F : Nat → Prop} {j d : Nat} {xs : List UInt8} {k : Nat} {s : Js} (h : JAt w F j d xs k s) :
    JTo w F j d xs k jsNew (((w.setCell ⟨j, 1, none⟩ (.int .i64 0)).setCell ⟨j, 2, none⟩ (.int .i64 (-1))).setCell ⟨j, 3, none⟩ (.slice none 0 0)) := by
  obtain ⟨v, Fd, h1, h2, h3, h4, h5, h6, h7, h8⟩ := h
  obtain ⟨F', g1, g2, g3⟩ := JAt.setTV 0 (-1) h1 h2 h3 h4 h5 h6 h7 h8
  obtain ⟨v', Fd', k1, k2, k3, k4, k5, k6, k7, k8⟩ := g1
  have := JAt.setLog (l := []) (v' := .slice none 0 0) k1 k2 (OwnN.nil _ _ _ _) k4 k5 k6 (fun g hg => by cases hg) k8
  obtain ⟨F2, m1, m2, m3⟩ := this
  exact ⟨F2, m1, fun i hi => (m2 i hi).elim (fun h => g2 i h) (fun h => .inr (Nat.le_trans g3.size h)), g3.trans m3 g2⟩

/-- Two steps of a journal. -/
theorem JTo.then {w w1 w' : World} {F F1 : Nat → Prop} {j d : Nat} {ys : List UInt8} {m : Nat} {s' : Js} (hf : Fr F w w1) (hi : ∀ i, F1 i → F i ∨ w.heap.size ≤ i) (h : JTo w1 F1 j d ys m s' w') : JTo w F j d ys m s' w' := by
  obtain ⟨F2, g3, g4, g5⟩ := h
  exact ⟨F2, g3, fun i h => (g4 i h).elim (fun h => hi i h) (fun h => .inr (Nat.le_trans hf.size h)), hf.trans g5 hi⟩

theorem j_trunc {w : World} {F : Nat → Prop} {j d : Nat} {xs : List UInt8} {k : Nat} {s : Js} (h : JAt w F j d xs k s) (n : Nat) (hn : n ≤ xs.length) :
    Calls Try.prog 92 #[.pointer (some ⟨d, 0, none⟩), .int .i64 (n : Int)] w fun e w' => e = .returned (.int .i64 0) ∧ JTo w F j d (xs.take n) (min k n) s w' := by
  obtain ⟨v, Fd, h1, h2, h3, h4, h5, h6, h7, h8⟩ := h
  exact (disk_truncate_yes w Fd d xs k h4 n hn).mono fun e w' ⟨e1, e2⟩ => ⟨e1, JAt.disk h1 h2 h3 h5 h6 h7 h8 e2⟩
theorem j_dbytes {w : World} {F : Nat → Prop} {j d : Nat} {xs : List UInt8} {k : Nat} {s : Js} (h : JAt w F j d xs k s) :
    Calls Try.prog 89 #[.pointer (some ⟨d, 0, none⟩)] w fun e w' => ∃ A c, e = .returned (.slice A xs.length c) ∧ Own w' (fun i => w.heap.size ≤ i) 5 (.slice A xs.length c) (xs.map bv) ∧ Fr No w w' := by
  obtain ⟨v, Fd, h1, h2, h3, h4, h5, h6, h7, h8⟩ := h
  exact disk_bytes w Fd d xs k h4
theorem JAt.ptr {w : World} {F : Nat → Prop} {j d : Nat} {xs : List UInt8} {k : Nat} {s : Js} (h : JAt w F j d xs k s) : w.cell? ⟨j, 0, none⟩ = some (.pointer (some ⟨d, 0, none⟩)) := by
  obtain ⟨v, Fd, h1, _⟩ := h
  exact h1.cell 0

set_option maxRecDepth 100000 in
set_option maxHeartbeats 4000000 in
theorem j_crash {w : World} {F : Nat → Prop} {j d : Nat} {xs : List UInt8} {k : Nat} {s : Js} (h : JAt w F j d xs k s) (keep : Int) :
    Calls Try.prog 70 #[.pointer (some ⟨j, 0, none⟩), .int .i64 keep] w fun e w' => e = .returned (.tuple #[]) ∧ JTo w F j d ((xs.take (crashN xs.length k keep)).take (playJ (xs.take (crashN xs.length k keep))).1) (min (crashN xs.length k keep) (playJ (xs.take (crashN xs.length k keep))).1) (playJ (xs.take (crashN xs.length k keep))).2 w' := by
  obtain ⟨u0, hu0, gz0, gz1, gz2⟩ := info_parts bytes_info
  obtain ⟨A1, c1, Fd, h1, h2, h3, h4, h5, h6, h7, h8, d0, d1, d2, d3, hn⟩ := h.open_
  have hxl : xs.length ≤ 140737488355328 := by
    obtain ⟨v, g1, g2, g3, g4, g5, g6⟩ := h4
    exact g5
  have hcr := disk_crash w Fd d xs k h4 keep
  have hfin := fun V' (hd : DiskTo w Fd d (xs.take (crashN xs.length k keep)) (crashN xs.length k keep) V') => JAt.disk h1 h2 h3 h5 h6 h7 h8 hd
  have hbl : (xs.take (crashN xs.length k keep)).length ≤ xs.length := by rw [List.length_take]; omega
  revert hcr hfin hbl
  generalize xs.take (crashN xs.length k keep) = b
  generalize crashN xs.length k keep = nd
  intro hcr hfin hbl
  obtain ⟨T, hT⟩ : ∃ T, T = playJ b := ⟨_, rfl⟩
  rw [← hT]
  unfold playJ at hT
  clear h h1 h2 h3 h4 h5 h6 h7 h8 hn d1 d2 d3
  have HCR := Lib.hid hcr
  have HFIN := Lib.hid hfin
  have HT := Lib.hid hT
  clear hcr hfin hT
  go_enter Try.func70, Try.ntmps70
  go_wp2_with fail
  refine HCR.out.mono ?_
  rintro e w1 ⟨rfl, dd⟩
  obtain ⟨G1, a1, i1, f1⟩ := HFIN.out _ dd
  clear HCR HFIN dd d0
  obtain ⟨W2, hW2⟩ : ∃ W2, W2 = ((w1.setCell ⟨j, 1, none⟩ (.int .i64 0)).setCell ⟨j, 2, none⟩ (.int .i64 (-1))).setCell ⟨j, 3, none⟩ (.slice none 0 0) := ⟨_, rfl⟩
  have hfg := a1.forget
  rw [← hW2] at hfg
  obtain ⟨A2, c2, Fd2, h1, -, -, -, -, -, -, -, d0, d1, d2, d3, -⟩ := a1.open_
  have q1 := h1.frozen 1
  have q2 := h1.frozen 2
  have q3 := h1.frozen 3
  clear h1 a1
  obtain ⟨G2, a2, i2, f2⟩ := hfg
  have hthen := fun ys m s' w' (hj : JTo W2 G2 j d ys m s' w') => JTo.then f1 i1 (JTo.then f2 i2 hj)
  have hdb := j_dbytes a2
  have h2lt := a2.lt
  clear f1 i1 f2 i2
  have A2 := Lib.hid a2
  have HTHEN := Lib.hid hthen
  have HDB := Lib.hid hdb
  have H2LT := Lib.hid h2lt
  have HW2 := Lib.hid hW2
  clear a2 hthen hdb h2lt hW2
  go_wp2_with fail
  rw [← HW2.out]
  clear HW2 d0 d1 d2 d3 q1 q2 q3
  refine HDB.out.mono ?_
  rintro e w3 ⟨B3, c3, rfl, o3, f3⟩
  have hcap := o3.cap
  have hnil := o3.len.2
  have hne : ∀ g, Value.ownBlock (.slice B3 b.length c3) = some g → ¬ G2 g := fun g hg hh => by
    have x1 := o3.2 g hg
    have x2 := H2LT.out g hh
    simp only at x1
    omega
  have a3 := A2.out.frNo f3
  have F3 := Lib.hid f3
  have O3 := Lib.hid o3
  clear o3 f3 HDB A2
  have A3 := Lib.hid a3
  have HNE := Lib.hid hne
  have HNIL := Lib.hid hnil
  clear a3 hne hnil
  go_wp2_with fail
  go_loopw [5] (fun o wr => ∃ (p f : Nat) (s' : Js), o = .int .i64 p ∧ p ≤ b.length ∧ b.length < f + p ∧ T = playG f b p s' ∧ s'.log.length ≤ 4096 ∧ JTo w3 G2 j d b nd s' wr) (fun o _ => b.length - (intOf o).toNat)
  case atStart => exact ⟨0, b.length + 1, jsNew, rfl, Nat.zero_le _, by omega, HT.out, by decide, A3.out.self⟩
  case round =>
    obtain ⟨p, f, s', rfl, hp, hf, hT2, hl4, hj⟩ := hrel
    obtain ⟨G4, a4, i4, f4⟩ := hj
    have hfinal := fun W (hf : Fr No wr W) (hT3 : T = (p, s')) => j_trunc (a4.frNo hf) p hp
    have hptr := fun W (hf : Fr No wr W) => (a4.frNo hf).ptr
    have hend := fun w' ys m s9 (hj : JTo wr G4 j d ys m s9 w') => HTHEN.out ys m s9 w' (JTo.after F3.out (JTo.then f4 i4 hj))
    have hcont := fun w' s9 (hj : JTo wr G4 j d b nd s9 w') => JTo.then f4 i4 hj
    have o4 := O3.out.fr' f4 HNE.out
    have d0 := a4.ptr
    clear HT
    by_cases hlt : p < b.length
    · rcases f with _ | f
      · omega
      rw [playG, if_pos hlt] at hT2
      obtain ⟨A4, hs2, hn2, hr2⟩ := run_from (P := Try.prog) 116 5 Try.underlying116 u0 hu0 gz1 B3 b.length c3 p hp HNIL.out
      have hr3 := hr2 wr wr.heap.size (b.map bv) (by rw [List.length_map]; exact hcap.1) o4.rd
      rw [← List.map_drop] at hr3
      have hC := frtake_any A4 (b.length - p) (c3 - p) 8 (b.drop p) wr wr.heap.size hn2 (by rw [List.length_drop]) hr3 (by omega) (by omega)
      have hk := takeFr_k 8 (b.drop p)
      rw [List.length_drop] at hk
      unfold TakeTo at hC
      generalize takeFr 8 (b.drop p) = t at *
      obtain ⟨tp, tk, te⟩ := t
      simp only at hT2 hk hC
      have hb1 : decide ((p : Int) < (b.length : Int)) = true := by simp; omega
      clear hr2 hr3 hn2 f4 i4 o4
      by_cases h0 : te = 0
      · rw [if_pos h0] at hT2
        have hk1 := hk h0
        subst h0
        have hrep := fun W (hf : Fr No wr W) A5 c5 (o5 : Own W (fun i => wr.heap.size ≤ i) 5 (.slice A5 tp.length c5) (tp.map bv)) => j_replay (a4.frNo hf) hl4 A5 tp.length c5 tp W.heap.size o5.len.2 rfl (Nat.le_trans o5.cap.1 o5.cap.2) o5.cap.1 o5.rd (Nat.le_refl _)
        have hrl := fun s9 hh => replayJ_len (s := s') (r := tp) (s' := s9) hh hl4
        unfold RepTo at hrep
        generalize hRR : replayJ s' tp = R at *
        clear hRR hk hfinal hptr
        cases R with
        | none =>
          simp only [Option.isSome_none, Option.getD_none] at hT2 hrep
          clear hrl hcont a4
          have HC := Lib.hid hC
          have HREP := Lib.hid hrep
          have HEND := Lib.hid hend
          have HT2 := Lib.hid hT2
          clear hC hrep hend hT2
          go_wp2_with fail
          refine HC.out.mono ?_
          rintro e w5 ⟨A5, c5, rfl, o5, f5⟩
          have O5 := Lib.hid o5
          have F5 := Lib.hid f5
          clear o5 f5 HC
          go_wp2_with fail
          refine (HREP.out _ F5.out _ _ O5.out).mono ?_
          rintro e w6 ⟨rfl, j6⟩
          obtain ⟨G6, a6, i6, f6⟩ := j6
          have d6 := a6.ptr
          have hfin := j_trunc a6 p hp
          have hend2 := fun w' ys m s9 (hj : JTo w6 G6 j d ys m s9 w') => HEND.out w' ys m s9 (JTo.after F5.out (JTo.then f6 i6 hj))
          clear a6 i6 f6 HREP HEND
          have HFIN := Lib.hid hfin
          have HEND2 := Lib.hid hend2
          clear hfin hend2
          go_wp2_with fail
          refine HFIN.out.mono ?_
          rintro e w9 ⟨rfl, j9⟩
          have J9 := Lib.hid (HEND2.out _ _ _ _ j9)
          clear j9
          go_wp2_with fail
          go_end0
          rw [HT2.out]
          exact ⟨rfl, J9.out⟩
        | some s9 =>
          simp only [Option.isSome_some, Option.getD_some] at hT2 hrep
          have hl9 := hrl s9 rfl
          clear hrl hend a4
          have HC := Lib.hid hC
          have HREP := Lib.hid hrep
          have HCONT := Lib.hid hcont
          have HT2 := Lib.hid hT2
          clear hC hrep hcont hT2
          go_wp2_with fail
          refine HC.out.mono ?_
          rintro e w5 ⟨A5, c5, rfl, o5, f5⟩
          have O5 := Lib.hid o5
          have F5 := Lib.hid f5
          clear o5 f5 HC
          go_wp2_with fail
          refine (HREP.out _ F5.out _ _ O5.out).mono ?_
          rintro e w6 ⟨rfl, j6⟩
          have J6 := Lib.hid (HCONT.out _ _ (JTo.after F5.out j6))
          clear j6
          go_wp2_with fail
          go_roundw
          case rel => exact ⟨p + tk, f, s9, by go_num, by omega, by omega, HT2.out, hl9, J6.out⟩
          case measure => simp [intOf]; omega
      · rw [if_neg h0] at hT2
        have b1 : (te == 0) = false := by simpa using h0
        have b2 : (te != 0) = true := by simpa using h0
        clear hk hcont a4
        have HC := Lib.hid hC
        have HFINAL := Lib.hid hfinal
        have HEND := Lib.hid hend
        have HT2 := Lib.hid hT2
        have H0 := Lib.hid h0
        have HPTR := Lib.hid hptr
        clear hC hfinal hend hT2 h0 hptr
        go_wp2_with fail
        refine HC.out.mono ?_
        rintro e w5 ⟨A5, c5, rfl, o5, f5⟩
        have F5 := Lib.hid f5
        have d6 := HPTR.out _ F5.out
        clear o5 f5 HC d0
        go_wp2_with fail
        refine (HFINAL.out _ F5.out HT2.out).mono ?_
        rintro e w9 ⟨rfl, j9⟩
        have J9 := Lib.hid (HEND.out _ _ _ _ (JTo.after F5.out j9))
        clear j9
        go_wp2_with fail
        go_end0
        rw [HT2.out]
        exact ⟨rfl, J9.out⟩
    · have hTT : T = (p, s') := by
        rw [hT2]
        rcases f with _ | f
        · rfl
        · rw [playG, if_neg hlt]
      have hb1 : decide ((p : Int) < (b.length : Int)) = false := by simp; omega
      clear hT2 f4 i4 o4 hptr a4 hcont
      have HFINAL := Lib.hid hfinal
      have HEND := Lib.hid hend
      have HTT := Lib.hid hTT
      clear hfinal hend hTT
      go_wp2_with fail
      refine (HFINAL.out _ (Fr.refl _ _) HTT.out).mono ?_
      rintro e w9 ⟨rfl, j9⟩
      have J9 := Lib.hid (HEND.out _ _ _ _ j9)
      clear j9
      go_wp2_with fail
      go_end0
      rw [HTT.out]
      exact ⟨rfl, J9.out⟩
end Go.Proofs.Ytokblidfekbeeaa
/- The contracts of note and awake of the journal's statements. -/
namespace Go.Proofs.Ytokblidfekbeeaa
open Go.ChangeShapes Go.WideShapes Go.ChangeAt Go.RowKit
set_option linter.unusedVariables false

/-- A note with a number. -/
def noteE (m : Int) : En := ⟨16, 0, -1, -1, -1, 0, 0, 0, m⟩
theorem noteE_ok (m : Int) (h : 0 ≤ m) (h2 : m < 1000) : (noteE m).ok := by
  intro x hx
  simp only [noteE, En.l, List.mem_cons, List.not_mem_nil, or_false] at hx
  rcases hx with rfl | rfl | rfl | rfl | rfl | rfl | rfl | rfl | rfl <;> omega
theorem noteE_shape (m : Int) (h : 0 ≤ m) (h2 : m < 1000) : shapeB (noteE m) = true := by
  unfold shapeB fitsB noteE formN inB Sp.has inB
  simp
  omega

/-- A journal of the call's own has turned. -/
theorem JTo.own {w0 w1 w2 : World} {F : Nat → Prop} {j d : Nat} {xs : List UInt8} {k : Nat} {s : Js} (h : JTo w1 F j d xs k s w2) (hf : Fr No w0 w1) (hN : ∀ i, F i → w0.heap.size ≤ i) : ∃ F', JAt w2 F' j d xs k s ∧ (∀ i, F' i → w0.heap.size ≤ i) ∧ Fr No w0 w2 := by
  obtain ⟨F', g1, g2, g3⟩ := h
  exact ⟨F', g1, fun i hi => (g2 i hi).elim (fun h => hN i h) (fun h => Nat.le_trans hf.size h), hf.transNew g3 hN⟩
theorem crashN_zero (len k : Nat) (h : k ≤ len) : crashN len k 0 = k := by unfold crashN; omega

end Go.Proofs.Ytokblidfekbeeaa
/- The plain law of replicas: what each call makes of a replica, and what it answers. -/
namespace Go.Proofs.Ytokblidfekbeeaa
set_option linter.unusedVariables false

/-- A message between replicas. -/
structure Ms where
  kind : Int
  from_ : Int
  to_ : Int
  term : Int
  index : Int
  prev : Int
  commit : Int
  ok : Bool
  es : List Lg
/-- What a replica knows. -/
structure Rs where
  js : Js
  id : Nat
  n : Nat
  role : Int
  commit : Nat
  votes : Nat
  next : Nat → Nat
  mtch : Nat → Nat
def repNew (id n : Nat) : Rs := ⟨jsNew, id, n, 1, 0, 0, fun _ => 0, fun _ => 0⟩

def lastT (l : List Lg) : Int := termAt l ((l.length : Int) - 1)
def others (id n : Nat) : List Nat := (List.range n).filter (· != id)
def Rs.vote (r : Rs) (dst : Nat) : Ms := ⟨1, r.id, dst, r.js.term, r.js.log.length, lastT r.js.log, 0, false, []⟩
def Rs.app (r : Rs) (dst : Nat) : Ms := ⟨3, r.id, dst, r.js.term, r.next dst, termAt r.js.log ((r.next dst : Int) - 1), r.commit, false, r.js.log.drop (r.next dst)⟩
def Rs.toAll (r : Rs) : List Ms := (others r.id r.n).map r.app
def Rs.lead (r : Rs) : Rs := { r with role := 3, next := fun _ => r.js.log.length, mtch := fun _ => 0 }
/-- How many of the first k replicas have stored m entries; the leader itself counts as one. -/
def Rs.stores (r : Rs) (m : Nat) : Nat → Nat
  | 0 => 1
  | k + 1 => r.stores m k + if k ≠ r.id ∧ m ≤ r.mtch k then 1 else 0
def Rs.advG (r : Rs) : Nat → Nat
  | 0 => r.commit
  | m + 1 => if m + 1 ≤ r.commit then r.commit else if termAt r.js.log (m : Int) = r.js.term ∧ r.n < 2 * r.stores (m + 1) r.n then m + 1 else r.advG m
def Rs.advance (r : Rs) : Rs := { r with commit := r.advG r.js.log.length }
/-- How many of the first k replicas have voted. -/
def cntV (v : Nat) : Nat → Nat
  | 0 => 0
  | k + 1 => cntV v k + if v.testBit k then 1 else 0

def Rs.campaign (r : Rs) : Rs × List Ms :=
  if 1073741824 ≤ r.js.term then (r, []) else
  if r.n = 1 then (({ r with js := ⟨r.js.term + 1, r.id, r.js.log⟩, role := 2, votes := 2 ^ r.id } : Rs).lead, []) else
  (({ r with js := ⟨r.js.term + 1, r.id, r.js.log⟩, role := 2, votes := 2 ^ r.id } : Rs), (others r.id r.n).map ({ r with js := ⟨r.js.term + 1, r.id, r.js.log⟩, role := 2, votes := 2 ^ r.id } : Rs).vote)
def Rs.proposed (r : Rs) (e : En) : Rs := ({ r with js := addS r.js r.js.term e } : Rs).advance
/-- What Propose answers. -/
def Rs.propX (r : Rs) (e : En) : Int := if r.role ≠ 3 then 4 else addX r.js r.js.term e
def Rs.propose (r : Rs) (e : En) : Rs × List Ms := if r.propX e = 0 then (r.proposed e, (r.proposed e).toAll) else (r, [])
def Rs.beat (r : Rs) : List Ms := if r.role ≠ 3 then [] else r.toAll

def chainB (hi : Int) : Int → List Lg → Bool
  | _, [] => true
  | low, x :: l => shapeB x.e && (decide (low ≤ x.term) && (decide (x.term ≤ hi) && chainB hi x.term l))
def properA (m : Ms) : Bool := ((m.prev == 0) == (m.index == 0)) && (decide (m.index + m.es.length ≤ 4096) && chainB m.term (max 1 m.prev) m.es)
def Rs.properB (r : Rs) (m : Ms) : Bool :=
  decide (m.to_ = r.id ∧ m.from_ ≠ r.id ∧ 0 ≤ m.from_ ∧ m.from_ < r.n ∧ 1 ≤ m.term ∧ m.term ≤ 1073741824 ∧ 0 ≤ m.index ∧ m.index ≤ 4096 ∧ 0 ≤ m.prev ∧ m.prev ≤ m.term ∧ 0 ≤ m.commit ∧ m.commit ≤ 4096)
def Rs.proper (r : Rs) (m : Ms) : Bool := r.properB m && (decide (m.kind = 1 ∨ m.kind = 2 ∨ m.kind = 4) || (decide (m.kind = 3) && properA m))

/-- The term and the role behind a message of a greater term. -/
def Rs.meets (r : Rs) (t : Int) : Rs := if r.js.term < t then { r with js := ⟨t, -1, r.js.log⟩, role := 1 } else r
def Rs.grants (r : Rs) (m : Ms) : Bool :=
  decide (m.term = r.js.term ∧ (r.js.vote = -1 ∨ r.js.vote = m.from_) ∧ (lastT r.js.log < m.prev ∨ m.prev = lastT r.js.log ∧ (r.js.log.length : Int) ≤ m.index))
def Rs.onVote (r : Rs) (m : Ms) : Rs × List Ms :=
  (if r.grants m then { r with js := ⟨m.term, m.from_, r.js.log⟩ } else r, [⟨2, r.id, m.from_, r.js.term, 0, 0, 0, r.grants m, []⟩])
def Rs.onVoted (r : Rs) (m : Ms) : Rs × List Ms :=
  if r.role ≠ 2 ∨ m.term ≠ r.js.term ∨ m.ok = false then (r, []) else
  if 2 * cntV (r.votes ||| 2 ^ m.from_.toNat) r.n ≤ r.n then ({ r with votes := r.votes ||| 2 ^ m.from_.toNat }, []) else
  (({ r with votes := r.votes ||| 2 ^ m.from_.toNat } : Rs).lead, ({ r with votes := r.votes ||| 2 ^ m.from_.toNat } : Rs).lead.toAll)
def Rs.answer (r : Rs) (dst index : Int) (ok : Bool) : List Ms := [⟨4, r.id, dst, r.js.term, index, 0, 0, ok, []⟩]
/-- How many of the entries from place p on are there already. -/
def matchK (l : List Lg) : Nat → List Lg → Nat
  | _, [] => 0
  | p, x :: es => if termAt l (p : Int) = x.term then matchK l (p + 1) es + 1 else 0
def addAll (s : Js) (es : List Lg) : Js := es.foldl (fun s x => addS s x.term x.e) s
def replaceS (s : Js) (p : Nat) (es : List Lg) : Js := addAll (if p < s.log.length then ⟨s.term, s.vote, s.log.take p⟩ else s) es
/-- Whether an append message fits the log. -/
def Rs.fits (r : Rs) (m : Ms) : Bool := decide (m.index ≤ r.js.log.length ∧ (m.index = 0 ∨ termAt r.js.log (m.index - 1) = m.prev))
def Rs.onAppend (r : Rs) (m : Ms) : Rs × List Ms :=
  if m.term < r.js.term then (r, r.answer m.from_ 0 false) else
  if r.role = 3 then (r, []) else
  if r.fits m = false then ({ r with role := 1 }, r.answer m.from_ (min (r.js.log.length : Int) (m.index - 1)) false) else
  if matchK r.js.log m.index.toNat m.es < m.es.length then
    if m.index.toNat + matchK r.js.log m.index.toNat m.es < r.commit then ({ r with role := 1 }, []) else
    ({ r with role := 1, js := replaceS r.js (m.index.toNat + matchK r.js.log m.index.toNat m.es) (m.es.drop (matchK r.js.log m.index.toNat m.es)), commit := max r.commit (min m.commit.toNat (m.index.toNat + m.es.length)) }, r.answer m.from_ (m.index + m.es.length) true)
  else ({ r with role := 1, commit := max r.commit (min m.commit.toNat (m.index.toNat + m.es.length)) }, r.answer m.from_ (m.index + m.es.length) true)
def setAt (f : Nat → Nat) (i v : Nat) : Nat → Nat := fun k => if k = i then v else f k
def Rs.onStored (r : Rs) (m : Ms) : Rs × List Ms :=
  if r.role ≠ 3 ∨ m.term ≠ r.js.term then (r, []) else
  if m.ok = false then
    ({ r with next := setAt r.next m.from_.toNat (min (r.next m.from_.toNat - 1) m.index.toNat) }, [({ r with next := setAt r.next m.from_.toNat (min (r.next m.from_.toNat - 1) m.index.toNat) } : Rs).app m.from_.toNat])
  else if m.index ≤ r.js.log.length then
    (({ r with mtch := setAt r.mtch m.from_.toNat (max (r.mtch m.from_.toNat) m.index.toNat), next := setAt r.next m.from_.toNat (max (r.mtch m.from_.toNat) m.index.toNat) } : Rs).advance, [])
  else (r, [])
/-- The message is handled by its kind. -/
def Rs.takes (r : Rs) (m : Ms) : Rs × List Ms :=
  if m.kind = 1 then r.onVote m else if m.kind = 2 then r.onVoted m else if m.kind = 3 then r.onAppend m else r.onStored m
def Rs.handle (r : Rs) (m : Ms) : Rs × List Ms := if r.proper m = false then (r, []) else (r.meets m.term).takes m
def Rs.crash (r : Rs) : Rs := { r with role := 1, commit := 0 }

/-- The logs that journals have. -/
structure LogOk (l : List Lg) (hi : Int) : Prop where
  few : l.length ≤ 4096
  each : ∀ x ∈ l, 1 ≤ x.term ∧ x.term ≤ hi ∧ shapeB x.e = true ∧ x.e.ok
  asc : ∀ (i j : Nat) (x y : Lg), i ≤ j → l[i]? = some x → l[j]? = some y → x.term ≤ y.term
/-- The replicas that there are. -/
structure RsOk (r : Rs) : Prop where
  log : LogOk r.js.log r.js.term
  lo : 0 ≤ r.js.term
  hi : r.js.term ≤ 1073741824
  vlo : -1 ≤ r.js.vote
  vhi : r.js.vote < 5
  idn : r.id < r.n
  five : r.n ≤ 5
  role : r.role = 1 ∨ r.role = 2 ∨ r.role = 3
  com : r.commit ≤ r.js.log.length
  vts : r.votes < 32
  nxt : r.role = 3 → ∀ i, r.next i ≤ r.js.log.length
  mts : r.role = 3 → ∀ i, r.mtch i ≤ r.js.log.length

theorem LogOk.nil (hi : Int) : LogOk [] hi := ⟨by simp, (fun x h => by cases h), fun i j x y _ h => by simp at h⟩
theorem LogOk.up {l : List Lg} {a b : Int} (h : LogOk l a) (hab : a ≤ b) : LogOk l b := ⟨h.few, fun x hx => by obtain ⟨h1, h2, h3⟩ := h.each x hx; exact ⟨h1, by omega, h3⟩, h.asc⟩
theorem LogOk.take {l : List Lg} {a : Int} (h : LogOk l a) (k : Nat) : LogOk (l.take k) a := by
  refine ⟨by have := h.few; rw [List.length_take]; omega, fun x hx => h.each x (List.mem_of_mem_take hx), fun i j x y hij hx hy => ?_⟩
  rw [List.getElem?_take] at hx hy
  split at hx
  · split at hy
    · exact h.asc i j x y hij hx hy
    · cases hy
  · cases hx
theorem termAt_at {l : List Lg} {k : Nat} {x : Lg} (h : l[k]? = some x) : termAt l (k : Int) = x.term := by
  unfold termAt
  rw [if_pos (by omega), Int.toNat_natCast, h]
  rfl
theorem termAt_out {l : List Lg} {k : Nat} (h : l.length ≤ k) : termAt l (k : Int) = 0 := by
  unfold termAt
  rw [if_pos (by omega), Int.toNat_natCast, List.getElem?_eq_none h]
  rfl
theorem termAt_neg {l : List Lg} {k : Int} (h : k < 0) : termAt l k = 0 := by
  unfold termAt
  rw [if_neg (by omega)]
theorem LogOk.termAt_bd {l : List Lg} {a : Int} (h : LogOk l a) (ha : 0 ≤ a) (k : Int) : 0 ≤ termAt l k ∧ termAt l k ≤ a := by
  by_cases hk : k < 0
  · rw [termAt_neg hk]; omega
  · obtain ⟨n, rfl⟩ : ∃ n : Nat, k = n := ⟨k.toNat, by omega⟩
    by_cases hn : l.length ≤ n
    · rw [termAt_out hn]; omega
    · obtain ⟨x, hx⟩ : ∃ x, l[n]? = some x := ⟨_, List.getElem?_eq_getElem (by omega)⟩
      rw [termAt_at hx]
      have := h.each x (List.mem_of_getElem? hx)
      omega
theorem LogOk.mono {l : List Lg} {a : Int} (h : LogOk l a) {i j : Nat} (hij : i ≤ j) (hj : j < l.length) : termAt l (i : Int) ≤ termAt l (j : Int) := by
  obtain ⟨x, hx⟩ : ∃ x, l[i]? = some x := ⟨_, List.getElem?_eq_getElem (by omega)⟩
  obtain ⟨y, hy⟩ : ∃ y, l[j]? = some y := ⟨_, List.getElem?_eq_getElem hj⟩
  rw [termAt_at hx, termAt_at hy]
  exact h.asc i j x y hij hx hy
theorem LogOk.snoc {l : List Lg} {a : Int} (h : LogOk l a) {x : Lg} (h1 : 1 ≤ x.term) (h2 : x.term ≤ a) (h3 : shapeB x.e = true) (h4 : x.e.ok) (h5 : lastT l ≤ x.term) (h6 : l.length < 4096) : LogOk (l ++ [x]) a := by
  have hl : ∀ (i : Nat) (y : Lg), l[i]? = some y → y.term ≤ x.term := fun i y hy => by
    have hi := (List.getElem?_eq_some_iff.1 hy).1
    obtain ⟨z, hz⟩ : ∃ z, l[l.length - 1]? = some z := ⟨_, List.getElem?_eq_getElem (by omega)⟩
    have := h.asc i (l.length - 1) y z (by omega) hy hz
    have h7 : lastT l = z.term := by unfold lastT; rw [show ((l.length : Int) - 1) = ((l.length - 1 : Nat) : Int) from by omega, termAt_at hz]
    omega
  refine ⟨by simp; omega, fun y hy => ?_, fun i j y z hij hy hz => ?_⟩
  · rcases List.mem_append.1 hy with hy | hy
    · exact h.each y hy
    · simp at hy; subst hy; exact ⟨h1, h2, h3, h4⟩
  · rcases Nat.lt_or_ge j l.length with hj | hj
    · rw [List.getElem?_append_left (by omega)] at hy
      rw [List.getElem?_append_left hj] at hz
      exact h.asc i j y z hij hy hz
    · rw [List.getElem?_append_right hj] at hz
      have hj0 : j - l.length = 0 := by
        have := (List.getElem?_eq_some_iff.1 hz).1
        simp at this; omega
      rw [hj0] at hz
      simp at hz
      subst hz
      rcases Nat.lt_or_ge i l.length with hi | hi
      · rw [List.getElem?_append_left hi] at hy
        exact hl i y hy
      · rw [List.getElem?_append_right hi] at hy
        have hi0 : i - l.length = 0 := by omega
        rw [hi0] at hy
        simp at hy
        subst hy
        exact Int.le_refl _

theorem setTermS_yes (s : Js) (t v : Int) (h1 : 0 ≤ t) (h2 : t ≤ 1073741824) (h3 : -1 ≤ v) (h4 : v < 5) (h5 : s.term < t ∨ s.term = t ∧ (s.vote = -1 ∨ s.vote = v)) : setTermX s t v = 0 ∧ setTermS s t v = ⟨t, v, s.log⟩ := by
  have hx : setTermX s t v = 0 := by
    unfold setTermX
    rw [if_neg (by omega), if_neg (by rcases h5 with h5 | ⟨h5, h6 | h6⟩ <;> omega)]
  exact ⟨hx, by unfold setTermS; rw [if_pos hx]⟩
theorem addX_zero {s : Js} {t : Int} {e : En} (h1 : 1 ≤ t) (h2 : t ≤ 1073741824) (h3 : shapeB e = true) (h4 : t ≤ s.term) (h5 : lastT s.log ≤ t) (h6 : s.log.length < 4096) : addX s t e = 0 := by
  unfold addX
  unfold lastT at h5
  rw [if_neg (by rw [h3]; simp; omega), if_neg (by omega), if_neg (by omega)]
theorem addS_yes {s : Js} {t : Int} {e : En} (h : addX s t e = 0) : addS s t e = ⟨s.term, s.vote, s.log ++ [⟨t, e⟩]⟩ := by unfold addS; rw [if_pos h]
theorem LogOk.add {s : Js} (h : LogOk s.log s.term) (t : Int) (e : En) (he : e.ok) : LogOk (addS s t e).log (addS s t e).term := by
  by_cases h0 : addX s t e = 0
  · rw [addS_yes h0]
    obtain ⟨b1, b2, b3, b4, b5, b6⟩ := addX_bd h0
    exact h.snoc b1 b4 b3 he b5 b6
  · rw [addS_no h0]; exact h
theorem addS_tv (s : Js) (t : Int) (e : En) : (addS s t e).term = s.term ∧ (addS s t e).vote = s.vote := by
  by_cases h0 : addX s t e = 0
  · rw [addS_yes h0]; exact ⟨rfl, rfl⟩
  · rw [addS_no h0]; exact ⟨rfl, rfl⟩
theorem addAll_tv (es : List Lg) : ∀ s : Js, (addAll s es).term = s.term ∧ (addAll s es).vote = s.vote := by
  induction es with
  | nil => exact fun s => ⟨rfl, rfl⟩
  | cons x es ih =>
    intro s
    have h1 := ih (addS s x.term x.e)
    have h2 := addS_tv s x.term x.e
    exact ⟨h1.1.trans h2.1, h1.2.trans h2.2⟩
theorem addAll_cons (s : Js) (x : Lg) (es : List Lg) : addAll s (x :: es) = addAll (addS s x.term x.e) es := rfl
theorem LogOk.addAll (es : List Lg) : ∀ {s : Js}, LogOk s.log s.term → (∀ x ∈ es, x.e.ok) → LogOk (addAll s es).log (addAll s es).term := by
  induction es with
  | nil => exact fun h _ => h
  | cons x es ih => exact fun h he => ih (h.add x.term x.e (he x (by simp))) fun y hy => he y (by simp [hy])

theorem chainB_each {hi : Int} : ∀ (es : List Lg) (low : Int), chainB hi low es = true → ∀ x ∈ es, shapeB x.e = true ∧ low ≤ x.term ∧ x.term ≤ hi := by
  intro es
  induction es with
  | nil => intro low _ x hx; cases hx
  | cons y es ih =>
    intro low h x hx
    simp only [chainB, Bool.and_eq_true, decide_eq_true_eq] at h
    rcases List.mem_cons.1 hx with rfl | hx
    · exact ⟨h.1, h.2.1, h.2.2.1⟩
    · have := ih y.term h.2.2.2 x hx
      exact ⟨this.1, by omega, this.2.2⟩
theorem chainB_drop {hi : Int} : ∀ (es : List Lg) (low : Int) (k : Nat), chainB hi low es = true → (k = 0 ∧ chainB hi low (es.drop k) = true) ∨ (es.length ≤ k) ∨ (∃ y, es[k - 1]? = some y ∧ 0 < k ∧ chainB hi y.term (es.drop k) = true) := by
  intro es
  induction es with
  | nil => intro low k h; exact .inr (.inl (Nat.zero_le _))
  | cons y es ih =>
    intro low k h
    rcases k with _ | k
    · exact .inl ⟨rfl, h⟩
    · simp only [chainB, Bool.and_eq_true, decide_eq_true_eq] at h
      rcases ih y.term k h.2.2.2 with ⟨rfl, h2⟩ | h2 | ⟨z, h2, h3, h4⟩
      · exact .inr (.inr ⟨y, rfl, by omega, by simpa using h2⟩)
      · exact .inr (.inl (by simpa using h2))
      · refine .inr (.inr ⟨z, ?_, by omega, by simpa using h4⟩)
        rw [show k + 1 - 1 = (k - 1) + 1 from by omega]
        simpa using h2
/-- Entries that are in order are all added. -/
theorem addAll_all (es : List Lg) : ∀ {s : Js} {low : Int}, chainB s.term low es = true → 1 ≤ low → s.term ≤ 1073741824 → lastT s.log ≤ low → s.log.length + es.length ≤ 4096 → addAll s es = ⟨s.term, s.vote, s.log ++ es⟩ := by
  induction es with
  | nil => intro s low _ _ _ _ _; rw [List.append_nil]; rfl
  | cons x es ih =>
    intro s low h h1 h2 h3 h4
    simp only [chainB, Bool.and_eq_true, decide_eq_true_eq] at h
    obtain ⟨g1, g2, g3, g4⟩ := h
    rw [List.length_cons] at h4
    have hx : addX s x.term x.e = 0 := addX_zero (by omega) (by omega) g1 g3 (by omega) (by omega)
    rw [addAll_cons, addS_yes hx]
    have hl : lastT (s.log ++ [⟨x.term, x.e⟩]) = x.term := by
      unfold lastT
      rw [show (((s.log ++ [(⟨x.term, x.e⟩ : Lg)]).length : Int) - 1) = ((s.log.length : Nat) : Int) from by simp]
      exact termAt_at (x := ⟨x.term, x.e⟩) (by rw [List.getElem?_append_right (Nat.le_refl _)]; simp)
    have h5 := ih (s := ⟨s.term, s.vote, s.log ++ [⟨x.term, x.e⟩]⟩) (low := x.term) g4 (by omega) h2 (by show lastT (s.log ++ [⟨x.term, x.e⟩]) ≤ _; omega) (by simp only [List.length_append, List.length_singleton]; omega)
    rw [h5]
    simp
theorem matchK_le (l : List Lg) (es : List Lg) : ∀ p, matchK l p es ≤ es.length := by
  induction es with
  | nil => intro p; exact Nat.le_refl _
  | cons x es ih =>
    intro p
    simp only [matchK]
    split
    · have := ih (p + 1); simp; omega
    · exact Nat.zero_le _
/-- The entries that are there already have the same terms. -/
theorem matchK_same (l : List Lg) (es : List Lg) : ∀ p k, k < matchK l p es → ∃ y, es[k]? = some y ∧ termAt l ((p + k : Nat) : Int) = y.term := by
  induction es with
  | nil => intro p k h; simp [matchK] at h
  | cons x es ih =>
    intro p k h
    simp only [matchK] at h
    split at h
    · rename_i h0
      rcases k with _ | k
      · exact ⟨x, rfl, h0⟩
      · obtain ⟨y, h1, h2⟩ := ih (p + 1) k (by omega)
        exact ⟨y, by simpa using h1, by rw [show p + (k + 1) = p + 1 + k from by omega]; exact h2⟩
    · omega
theorem matchK_stop (l : List Lg) (es : List Lg) : ∀ p, matchK l p es < es.length → ∃ y, es[matchK l p es]? = some y ∧ termAt l ((p + matchK l p es : Nat) : Int) ≠ y.term := by
  induction es with
  | nil => intro p h; simp [matchK] at h
  | cons x es ih =>
    intro p h
    simp only [matchK] at h ⊢
    split at h
    · rename_i h0
      rw [if_pos h0]
      obtain ⟨y, h1, h2⟩ := ih (p + 1) (by simpa using h)
      exact ⟨y, by simpa using h1, by rw [show p + (matchK l (p + 1) es + 1) = p + 1 + matchK l (p + 1) es from by omega]; exact h2⟩
    · rename_i h0
      rw [if_neg h0]
      exact ⟨x, rfl, by simpa using h0⟩

theorem Rs.advG_bd (r : Rs) : ∀ m, r.commit ≤ r.advG m ∧ (r.advG m ≤ r.commit ∨ r.advG m ≤ m) := by
  intro m
  induction m with
  | zero => exact ⟨Nat.le_refl _, .inl (Nat.le_refl _)⟩
  | succ m ih =>
    simp only [Rs.advG]
    split
    · exact ⟨Nat.le_refl _, .inl (Nat.le_refl _)⟩
    · split
      · exact ⟨by omega, .inr (Nat.le_refl _)⟩
      · omega
theorem others_mem {id n k : Nat} : k ∈ others id n ↔ k < n ∧ k ≠ id := by simp [others]
end Go.Proofs.Ytokblidfekbeeaa
/- The plain law of replicas: what there are stays what there are. -/
namespace Go.Proofs.Ytokblidfekbeeaa
set_option linter.unusedVariables false

theorem RsOk.new {id n : Nat} (h1 : id < n) (h2 : n ≤ 5) : RsOk (repNew id n) :=
  ⟨LogOk.nil _, by simp [repNew], by simp [repNew], by simp [repNew], by simp [repNew], h1, h2, .inl rfl, Nat.le_refl _, by simp [repNew], fun h => by simp [repNew] at h, fun h => by simp [repNew] at h⟩
theorem RsOk.lead {r : Rs} (h : RsOk r) : RsOk r.lead :=
  ⟨h.log, h.lo, h.hi, h.vlo, h.vhi, h.idn, h.five, .inr (.inr rfl), h.com, h.vts, fun _ _ => Nat.le_refl _, fun _ _ => Nat.zero_le _⟩
theorem RsOk.advance {r : Rs} (h : RsOk r) : RsOk r.advance := by
  refine ⟨h.log, h.lo, h.hi, h.vlo, h.vhi, h.idn, h.five, h.role, ?_, h.vts, h.nxt, h.mts⟩
  have h1 := r.advG_bd r.js.log.length
  have h2 := h.com
  show r.advG r.js.log.length ≤ r.js.log.length
  omega
theorem RsOk.meets {r : Rs} (h : RsOk r) (t : Int) (ht : t ≤ 1073741824) : RsOk (r.meets t) := by
  unfold Rs.meets
  split
  · have h1 := h.lo
    exact ⟨h.log.up (by simp only; omega), by simp only; omega, ht, by simp, by simp, h.idn, h.five, .inl rfl, h.com, h.vts, fun hh => by simp at hh, fun hh => by simp at hh⟩
  · exact h
theorem meets_term (r : Rs) (t : Int) : t ≤ (r.meets t).js.term ∧ r.js.term ≤ (r.meets t).js.term := by
  unfold Rs.meets
  split
  · simp only; omega
  · omega
theorem meets_eq (r : Rs) (t : Int) : (r.meets t).id = r.id ∧ (r.meets t).n = r.n ∧ (r.meets t).js.log = r.js.log ∧ (r.meets t).commit = r.commit := by
  unfold Rs.meets
  split <;> exact ⟨rfl, rfl, rfl, rfl⟩

/-- What is proper. -/
structure Proper (r : Rs) (m : Ms) : Prop where
  to_ : m.to_ = r.id
  ne : m.from_ ≠ r.id
  f0 : 0 ≤ m.from_
  f1 : m.from_ < r.n
  t0 : 1 ≤ m.term
  t1 : m.term ≤ 1073741824
  i0 : 0 ≤ m.index
  i1 : m.index ≤ 4096
  p0 : 0 ≤ m.prev
  p1 : m.prev ≤ m.term
  c0 : 0 ≤ m.commit
  c1 : m.commit ≤ 4096
  k : m.kind = 1 ∨ m.kind = 2 ∨ m.kind = 3 ∨ m.kind = 4
  a : m.kind = 3 → properA m = true
theorem Rs.proper_iff {r : Rs} {m : Ms} : r.proper m = true ↔ Proper r m := by
  unfold Rs.proper Rs.properB
  simp only [Bool.and_eq_true, Bool.or_eq_true, decide_eq_true_eq]
  constructor
  · rintro ⟨⟨h1, h2, h3, h4, h5, h6, h7, h8, h9, h10, h11, h12⟩, h13⟩
    refine ⟨h1, h2, h3, h4, h5, h6, h7, h8, h9, h10, h11, h12, by omega, fun hk => ?_⟩
    rcases h13 with h | h
    · omega
    · exact h.2
  · intro h
    refine ⟨⟨h.to_, h.ne, h.f0, h.f1, h.t0, h.t1, h.i0, h.i1, h.p0, h.p1, h.c0, h.c1⟩, ?_⟩
    by_cases hk : m.kind = 3
    · exact .inr ⟨hk, h.a hk⟩
    · have := h.k
      exact .inl (by omega)
theorem Proper.of_meets {r : Rs} {m : Ms} (h : Proper r m) (t : Int) : Proper (r.meets t) m := by
  obtain ⟨h1, h2, -⟩ := meets_eq r t
  exact ⟨by rw [h1]; exact h.to_, by rw [h1]; exact h.ne, h.f0, by rw [h2]; exact h.f1, h.t0, h.t1, h.i0, h.i1, h.p0, h.p1, h.c0, h.c1, h.k, h.a⟩

theorem properA_iff {m : Ms} (h : properA m = true) : (m.prev = 0 ↔ m.index = 0) ∧ m.index + m.es.length ≤ 4096 ∧ chainB m.term (max 1 m.prev) m.es = true := by
  unfold properA at h
  simp only [Bool.and_eq_true, decide_eq_true_eq, beq_iff_eq] at h
  refine ⟨?_, h.2.1, h.2.2⟩
  have h1 := h.1
  constructor
  · intro h2
    rw [h2] at h1
    simp at h1
    omega
  · intro h2
    rw [h2] at h1
    simp at h1
    omega

theorem RsOk.onVote {r : Rs} {m : Ms} (h : RsOk r) (hm : Proper r m) : RsOk (r.onVote m).1 := by
  unfold Rs.onVote
  simp only
  split
  · rename_i hg
    unfold Rs.grants at hg
    simp only [decide_eq_true_eq] at hg
    have h1 := hg.1
    have := h.five
    have := hm.f0
    have := hm.f1
    exact ⟨by rw [h1]; exact h.log, by simp only; have := hm.t0; omega, hm.t1, by simp only; omega, by simp only; omega, h.idn, h.five, h.role, h.com, h.vts, h.nxt, h.mts⟩
  · exact h
theorem RsOk.voted {r : Rs} {m : Ms} (h : RsOk r) (hm : Proper r m) : RsOk { r with votes := r.votes ||| 2 ^ m.from_.toNat } := by
  refine ⟨h.log, h.lo, h.hi, h.vlo, h.vhi, h.idn, h.five, h.role, h.com, ?_, h.nxt, h.mts⟩
  have h1 := h.five
  have h2 := hm.f1
  have h3 := hm.f0
  have h4 : m.from_.toNat < 5 := by omega
  have h5 : (2 : Nat) ^ m.from_.toNat < 2 ^ 5 := Nat.pow_lt_pow_right (by omega) h4
  exact Nat.or_lt_two_pow (n := 5) h.vts h5
theorem RsOk.onVoted {r : Rs} {m : Ms} (h : RsOk r) (hm : Proper r m) : RsOk (r.onVoted m).1 := by
  unfold Rs.onVoted
  split
  · exact h
  · split
    · exact h.voted hm
    · exact (h.voted hm).lead
/-- The place up dst which the entries are there already, and the log behind it. -/
theorem take_log {r : Rs} {m : Ms} (h : RsOk r) (hm : Proper r m) (hk : m.kind = 3) (ht : m.term = r.js.term) (hf : r.fits m = true) :
    m.index.toNat + matchK r.js.log m.index.toNat m.es ≤ r.js.log.length ∧
    (matchK r.js.log m.index.toNat m.es < m.es.length → replaceS r.js (m.index.toNat + matchK r.js.log m.index.toNat m.es) (m.es.drop (matchK r.js.log m.index.toNat m.es)) =
      ⟨r.js.term, r.js.vote, r.js.log.take (m.index.toNat + matchK r.js.log m.index.toNat m.es) ++ m.es.drop (matchK r.js.log m.index.toNat m.es)⟩) := by
  obtain ⟨a1, a2, a3⟩ := properA_iff (hm.a hk)
  unfold Rs.fits at hf
  simp only [decide_eq_true_eq] at hf
  have hi0 := hm.i0
  generalize hK : matchK r.js.log m.index.toNat m.es = K at *
  generalize hi : m.index.toNat = i at *
  have hx : m.index = (i : Int) := by omega
  have hle : i + K ≤ r.js.log.length := by
    rcases K with _ | K
    · omega
    · obtain ⟨y, h1, h2⟩ := matchK_same r.js.log m.es i K (by omega)
      have h3 := (chainB_each _ _ a3 y (List.mem_of_getElem? h1)).2.1
      rcases Nat.lt_or_ge (i + K) r.js.log.length with h4 | h4
      · omega
      · rw [termAt_out h4] at h2
        omega
  refine ⟨hle, fun hlt => ?_⟩
  have hcut : (if i + K < r.js.log.length then (⟨r.js.term, r.js.vote, r.js.log.take (i + K)⟩ : Js) else r.js) = ⟨r.js.term, r.js.vote, r.js.log.take (i + K)⟩ := by
    split
    · rfl
    · rw [List.take_of_length_le (by omega)]
  unfold replaceS
  rw [hcut]
  have hlast : ∀ q, q = i + K → 0 < q → lastT (r.js.log.take q) = termAt r.js.log ((q - 1 : Nat) : Int) := by
    intro q hq hq0
    obtain ⟨x, hx⟩ : ∃ x, r.js.log[q - 1]? = some x := ⟨_, List.getElem?_eq_getElem (by omega)⟩
    unfold lastT
    rw [List.length_take, show (((min q r.js.log.length : Nat) : Int) - 1) = ((q - 1 : Nat) : Int) from by omega, termAt_at hx]
    exact termAt_at (by rw [List.getElem?_take, if_pos (by omega)]; exact hx)
  have hhi := h.hi
  rcases chainB_drop m.es (max 1 m.prev) K a3 with ⟨rfl, g1⟩ | g1 | ⟨y, g1, g2, g3⟩
  · rw [ht] at g1
    refine addAll_all (low := max 1 m.prev) (m.es.drop 0) g1 (by omega) hhi ?_ (by simp only [List.length_take, List.length_drop]; omega)
    rcases Nat.eq_zero_or_pos i with rfl | hi1
    · simp [lastT, termAt]; omega
    · show lastT (r.js.log.take (i + 0)) ≤ _
      rw [hlast _ rfl (by omega)]
      rcases hf.2 with h1 | h1
      · omega
      · rw [show ((i + 0 - 1 : Nat) : Int) = m.index - 1 from by omega, h1]
        omega
  · omega
  · rw [ht] at g3
    have hy := (chainB_each _ _ a3 y (List.mem_of_getElem? g1)).2.1
    refine addAll_all (low := y.term) (m.es.drop K) g3 (by omega) hhi ?_ (by simp only [List.length_take, List.length_drop]; omega)
    show lastT (r.js.log.take (i + K)) ≤ _
    rw [hlast _ rfl (by omega)]
    obtain ⟨z, h1, h2⟩ := matchK_same r.js.log m.es i (K - 1) (by omega)
    rw [h1] at g1
    injection g1 with g1
    subst g1
    rw [show i + K - 1 = i + (K - 1) from by omega, h2]
    exact Int.le_refl _
theorem RsOk.onAppend {r : Rs} {m : Ms} (h : RsOk r) (hm : Proper r m) (hk : m.kind = 3) (ht : m.term ≤ r.js.term) (he : ∀ x ∈ m.es, x.e.ok) : RsOk (r.onAppend m).1 := by
  unfold Rs.onAppend
  have hfol : RsOk { r with role := 1 } := ⟨h.log, h.lo, h.hi, h.vlo, h.vhi, h.idn, h.five, .inl rfl, h.com, h.vts, fun hh => by simp at hh, fun hh => by simp at hh⟩
  split
  · exact h
  · split
    · exact h
    · split
      · exact hfol
      · rename_i h1 h2 h3
        have ht2 : m.term = r.js.term := by omega
        obtain ⟨k1, k2⟩ := take_log h hm hk ht2 (by simpa using h3)
        have hml := matchK_le r.js.log m.es m.index.toNat
        have hi0 := hm.i0
        obtain ⟨a1, a2, a3⟩ := properA_iff (hm.a hk)
        have hcom := h.com
        split
        · rename_i h4
          split
          · exact hfol
          · rename_i h5
            rw [k2 h4]
            have hlen : (r.js.log.take (m.index.toNat + matchK r.js.log m.index.toNat m.es) ++ m.es.drop (matchK r.js.log m.index.toNat m.es)).length = m.index.toNat + m.es.length := by
              simp only [List.length_append, List.length_take, List.length_drop]; omega
            have hlog := LogOk.addAll (s := if m.index.toNat + matchK r.js.log m.index.toNat m.es < r.js.log.length then (⟨r.js.term, r.js.vote, r.js.log.take (m.index.toNat + matchK r.js.log m.index.toNat m.es)⟩ : Js) else r.js) (m.es.drop (matchK r.js.log m.index.toNat m.es)) (by
              split
              · exact h.log.take _
              · exact h.log) (fun x hx => he x (List.mem_of_mem_drop hx))
            have hrep := k2 h4
            unfold replaceS at hrep
            rw [hrep] at hlog
            refine ⟨hlog, h.lo, h.hi, h.vlo, h.vhi, h.idn, h.five, .inl rfl, ?_, h.vts, fun hh => by simp at hh, fun hh => by simp at hh⟩
            simp only
            rw [hlen]
            omega
        · rename_i h4
          refine ⟨h.log, h.lo, h.hi, h.vlo, h.vhi, h.idn, h.five, .inl rfl, ?_, h.vts, fun hh => by simp at hh, fun hh => by simp at hh⟩
          simp only
          omega
theorem RsOk.onStored {r : Rs} {m : Ms} (h : RsOk r) : RsOk (r.onStored m).1 := by
  unfold Rs.onStored
  split
  · exact h
  · rename_i h0
    have hr : r.role = 3 := by
      apply Classical.byContradiction
      intro hh
      exact h0 (.inl hh)
    split
    · refine ⟨h.log, h.lo, h.hi, h.vlo, h.vhi, h.idn, h.five, h.role, h.com, h.vts, fun hh i => ?_, h.mts⟩
      simp only [setAt]
      have := h.nxt hr i
      have := h.nxt hr m.from_.toNat
      split <;> omega
    · split
      · rename_i h1 h2
        refine RsOk.advance ⟨h.log, h.lo, h.hi, h.vlo, h.vhi, h.idn, h.five, h.role, h.com, h.vts, fun hh i => ?_, fun hh i => ?_⟩
        · simp only [setAt]
          have := h.nxt hr i
          have := h.mts hr m.from_.toNat
          split <;> omega
        · simp only [setAt]
          have := h.mts hr i
          have := h.mts hr m.from_.toNat
          split <;> omega
      · exact h
theorem RsOk.takes {r : Rs} {m : Ms} (h : RsOk r) (hm : Proper r m) (ht : m.term ≤ r.js.term) (he : ∀ x ∈ m.es, x.e.ok) : RsOk (r.takes m).1 := by
  unfold Rs.takes
  split
  · exact h.onVote hm
  · split
    · exact h.onVoted hm
    · split
      · rename_i hk
        exact h.onAppend hm hk ht he
      · exact h.onStored
theorem RsOk.handle {r : Rs} {m : Ms} (h : RsOk r) (he : ∀ x ∈ m.es, x.e.ok) : RsOk (r.handle m).1 := by
  unfold Rs.handle
  split
  · exact h
  · rename_i hp
    have hm : Proper r m := Rs.proper_iff.1 (by simpa using hp)
    exact (h.meets m.term hm.t1).takes (hm.of_meets m.term) (meets_term r m.term).1 he
theorem RsOk.crash {r : Rs} (h : RsOk r) : RsOk r.crash :=
  ⟨h.log, h.lo, h.hi, h.vlo, h.vhi, h.idn, h.five, .inl rfl, Nat.zero_le _, h.vts, fun hh => by simp [Rs.crash] at hh, fun hh => by simp [Rs.crash] at hh⟩
theorem RsOk.campaign {r : Rs} (h : RsOk r) : RsOk r.campaign.1 := by
  unfold Rs.campaign
  have hid := h.idn
  have h5 := h.five
  have hlo := h.lo
  split
  · exact h
  · rename_i h0
    have hb : RsOk { r with js := ⟨r.js.term + 1, r.id, r.js.log⟩, role := 2, votes := 2 ^ r.id } :=
      ⟨h.log.up (by simp only; omega), by simp only; omega, by simp only; omega, by simp only; omega, by simp only; omega, h.idn, h.five, .inr (.inl rfl), h.com, by
        have : (2 : Nat) ^ r.id < 2 ^ 5 := Nat.pow_lt_pow_right (by omega) (by omega)
        simpa using this, fun hh => by simp at hh, fun hh => by simp at hh⟩
    split
    · exact hb.lead
    · exact hb
theorem RsOk.proposed {r : Rs} (h : RsOk r) (e : En) (he : e.ok) : RsOk (r.proposed e) := by
  unfold Rs.proposed
  apply RsOk.advance
  have hl := h.log.add r.js.term e he
  obtain ⟨t1, t2⟩ := addS_tv r.js r.js.term e
  have hlen : r.js.log.length ≤ (addS r.js r.js.term e).log.length := by
    by_cases h0 : addX r.js r.js.term e = 0
    · rw [addS_yes h0]; simp
    · rw [addS_no h0]; exact Nat.le_refl _
  refine ⟨hl, ?_, ?_, ?_, ?_, h.idn, h.five, h.role, Nat.le_trans h.com hlen, h.vts, fun hh i => Nat.le_trans (h.nxt hh i) hlen, fun hh i => Nat.le_trans (h.mts hh i) hlen⟩
  · simp only; rw [t1]; exact h.lo
  · simp only; rw [t1]; exact h.hi
  · simp only; rw [t2]; exact h.vlo
  · simp only; rw [t2]; exact h.vhi
theorem RsOk.propose {r : Rs} (h : RsOk r) (e : En) (he : e.ok) : RsOk (r.propose e).1 := by
  unfold Rs.propose
  split
  · exact h.proposed e he
  · exact h
end Go.Proofs.Ytokblidfekbeeaa
