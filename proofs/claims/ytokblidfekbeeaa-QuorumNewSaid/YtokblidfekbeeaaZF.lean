/-
  Several texts in one: RJrn, QwE, QwF.
-/
import Derived.Test.YtokblidfekbeeaaZ18
import Derived.Test.YtokblidfekbeeaaZ10
import Derived.Test.YtokblidfekbeeaaZ21
import Derived.Test.YtokblidfekbeeaaZ31
/- The reference's journal in memory; the contracts of its readers, of setTerm. -/
namespace Go.Proofs.Ytokblidfekbeeaa
open Go.ChangeShapes Go.WideShapes Go.ChangeAt Go.RowKit
set_option linter.unusedVariables false

abbrev TRJ : TypeId := 108
/-- The journal j has the disk d with the bytes xs, of which k are durable, and remembers s; it lies in blocks of F. -/
def RJAt (w : World) (F : Nat → Prop) (j d : Nat) (xs : List UInt8) (k : Nat) (s : Js) : Prop :=
  ∃ v Fd, Blk w j TRJ #[.pointer (some ⟨d, 0, none⟩), .int .i64 s.term, .int .i64 s.vote, v] ∧ F j ∧ OwnN w F TLg 10 v s.log.length (logV s.log) ∧ DskAt TRDisk w Fd d xs k ∧ (∀ i, Fd i → F i) ∧ ¬ Fd j ∧ (∀ g, v.ownBlock = some g → ¬ Fd g) ∧ ∀ i, F i → i < w.heap.size
/-- What a call leaves of a journal that lay in F. -/
def RJTo (w : World) (F : Nat → Prop) (j d : Nat) (xs : List UInt8) (k : Nat) (s : Js) (w' : World) : Prop :=
  ∃ F', RJAt w' F' j d xs k s ∧ (∀ i, F' i → F i ∨ w.heap.size ≤ i) ∧ Fr F w w'

section
variable {w w' w1 : World} {F G : Nat → Prop} {j d : Nat} {xs : List UInt8} {k : Nat} {s : Js}
theorem RJAt.fr (h : RJAt w F j d xs k s) (hf : Fr G w w') (hd : ∀ i, F i → ¬ G i) : RJAt w' F j d xs k s := by
  obtain ⟨v, Fd, h1, h2, h3, h4, h5, h6, h7, h8⟩ := h
  exact ⟨v, Fd, h1.fr hf (hd j h2), h2, h3.fr' hf fun g hg => hd g (h3.2 g hg), h4.fr hf fun i hi => hd i (h5 i hi), h5, h6, h7, fun i hi => Nat.lt_of_lt_of_le (h8 i hi) hf.size⟩
theorem RJAt.frNo (h : RJAt w F j d xs k s) (hf : Fr No w w') : RJAt w' F j d xs k s := h.fr hf fun _ _ hi => hi
theorem RJAt.lt (h : RJAt w F j d xs k s) : ∀ i, F i → i < w.heap.size := by
  obtain ⟨v, Fd, h1, h2, h3, h4, h5, h6, h7, h8⟩ := h
  exact h8
theorem RJAt.self (h : RJAt w F j d xs k s) : RJTo w F j d xs k s w := ⟨F, h, fun _ hi => .inl hi, Fr.refl _ _⟩
/-- The journal's cells, for a walk. -/
theorem RJAt.open_ (h : RJAt w F j d xs k s) : ∃ A c Fd, Blk w j TRJ #[.pointer (some ⟨d, 0, none⟩), .int .i64 s.term, .int .i64 s.vote, .slice A s.log.length c] ∧ F j ∧ OwnN w F TLg 10 (.slice A s.log.length c) s.log.length (logV s.log) ∧ DskAt TRDisk w Fd d xs k ∧ (∀ i, Fd i → F i) ∧ ¬ Fd j ∧ (∀ g, Value.ownBlock (.slice A s.log.length c) = some g → ¬ Fd g) ∧ (∀ i, F i → i < w.heap.size) ∧
      w.cell? ⟨j, 0, none⟩ = some (.pointer (some ⟨d, 0, none⟩)) ∧ w.cell? ⟨j, 1, none⟩ = some (.int .i64 s.term) ∧ w.cell? ⟨j, 2, none⟩ = some (.int .i64 s.vote) ∧ w.cell? ⟨j, 3, none⟩ = some (.slice A s.log.length c) ∧ (A = none → s.log.length = 0) := by
  obtain ⟨v, Fd, h1, h2, h3, h4, h5, h6, h7, h8⟩ := h
  obtain ⟨A, c, rfl, hn⟩ := h3.form
  exact ⟨A, c, Fd, h1, h2, h3, h4, h5, h6, h7, h8, h1.cell 0, h1.cell 1, h1.cell 2, h1.cell 3, hn⟩
/-- The disk of a journal has turned. -/
theorem RJAt.disk {v : Value} {Fd : Nat → Prop} {ys : List UInt8} {m : Nat} (h1 : Blk w j TRJ #[.pointer (some ⟨d, 0, none⟩), .int .i64 s.term, .int .i64 s.vote, v]) (h2 : F j) (h3 : OwnN w F TLg 10 v s.log.length (logV s.log)) (h5 : ∀ i, Fd i → F i) (h6 : ¬ Fd j) (h7 : ∀ g, v.ownBlock = some g → ¬ Fd g) (h8 : ∀ i, F i → i < w.heap.size)
    (hd : DskTo TRDisk w Fd d ys m w') : RJTo w F j d ys m s w' := by
  obtain ⟨Fd', g1, g2, g3⟩ := hd
  have hjl := h8 j h2
  refine ⟨fun i => F i ∨ (w.heap.size ≤ i ∧ i < w'.heap.size), ⟨v, Fd', h1.fr g3 h6, .inl h2, (h3.fr' g3 h7).mono fun i hi => .inl hi, g1, ?_, ?_, ?_, ?_⟩, ?_, g3.mono h5⟩
  · intro i hi
    have := g1.lt i hi
    rcases g2 i hi with h | h
    · exact .inl (h5 i h)
    · exact .inr ⟨h, this⟩
  · intro h
    rcases g2 j h with h | h
    · exact h6 h
    · omega
  · intro g hg h
    have hl := h3.lt g hg
    rcases g2 g h with h | h
    · exact h7 g hg h
    · omega
  · intro i hi
    rcases hi with h | h
    · exact Nat.lt_of_lt_of_le (h8 i h) g3.size
    · exact h.2
  · intro i hi
    rcases hi with h | h
    · exact .inl h
    · exact .inr h.1
theorem RJTo.trans {ys : List UInt8} {m : Nat} {s' : Js} (h : RJTo w F j d xs k s w1) (h2 : ∀ F', RJAt w1 F' j d xs k s → RJTo w1 F' j d ys m s' w') : RJTo w F j d ys m s' w' := by
  obtain ⟨F1, h3, h4, h5⟩ := h
  obtain ⟨F2, g3, g4, g5⟩ := h2 F1 h3
  refine ⟨F2, g3, fun i hi => ?_, h5.trans g5 h4⟩
  rcases g4 i hi with h | h
  · exact h4 i h
  · exact .inr (Nat.le_trans h5.size h)
end

theorem rj_new (w : World) :
    Calls Try.prog 49 #[] w fun e w' => ∃ j d F, e = .returned (.pointer (some ⟨j, 0, none⟩)) ∧ RJAt w' F j d [] 0 jsNew ∧ (∀ i, F i → w.heap.size ≤ i) ∧ Fr No w w' := by
  go_enter Try.func49, Try.ntmps49
  go_wp2_with fail
  refine (rdisk_new _).mono ?_
  rintro e w1 ⟨rfl, h1, f1⟩
  have H1 := Lib.hid h1
  have F1 := Lib.hid f1
  clear h1 f1
  go_wp2_with fail
  go_ret
  have hs := F1.out.size
  have hd := H1.out.lt w.heap.size rfl
  refine ⟨w1.heap.size, w.heap.size, fun i => i = w.heap.size ∨ i = w1.heap.size, rfl, ⟨.slice none 0 0, fun i => i = w.heap.size, Blk.new _ _ _, .inr rfl, OwnN.nil _ _ _ _, H1.out.frNo (fr_alloc _ _), fun i hi => .inl hi, ?_, fun g hg => (by cases hg), ?_⟩, ?_, F1.out.alloc _⟩
  · intro h
    omega
  · intro i hi
    simp
    omega
  · intro i hi
    omega

section
variable {w : World} {F : Nat → Prop} {j d : Nat} {xs : List UInt8} {k : Nat} {s : Js} {v : Value} {Fd : Nat → Prop}
theorem RJAt.setTV (t u : Int) (h1 : Blk w j TRJ #[.pointer (some ⟨d, 0, none⟩), .int .i64 s.term, .int .i64 s.vote, v]) (h2 : F j) (h3 : OwnN w F TLg 10 v s.log.length (logV s.log)) (h4 : DskAt TRDisk w Fd d xs k) (h5 : ∀ i, Fd i → F i) (h6 : ¬ Fd j) (h7 : ∀ g, v.ownBlock = some g → ¬ Fd g) (h8 : ∀ i, F i → i < w.heap.size) :
    RJTo w F j d xs k ⟨t, u, s.log⟩ ((w.setCell ⟨j, 1, none⟩ (.int .i64 t)).setCell ⟨j, 2, none⟩ (.int .i64 u)) := by
  have hf : Fr (fun i => i = j) w ((w.setCell ⟨j, 1, none⟩ (.int .i64 t)).setCell ⟨j, 2, none⟩ (.int .i64 u)) := ((Fr.refl (fun i => i = j) w).setCell (p := ⟨j, 1, none⟩) (.inl rfl) _).setCell (p := ⟨j, 2, none⟩) (.inl rfl) _
  refine ⟨F, ⟨v, Fd, (h1.set_ 1 _).set_ 2 _, h2, h3.fr' hf (h3.ne_blk h1 (by decide)), h4.fr hf (fun i hi he => h6 (he ▸ hi)), h5, h6, h7, fun i hi => Nat.lt_of_lt_of_le (h8 i hi) hf.size⟩, fun i hi => .inl hi, hf.mono fun i hi => hi ▸ h2⟩
theorem RJAt.setLog {v' : Value} {l : List Lg} (h1 : Blk w j TRJ #[.pointer (some ⟨d, 0, none⟩), .int .i64 s.term, .int .i64 s.vote, v]) (h2 : F j) (h3 : OwnN w F TLg 10 v' l.length (logV l)) (h4 : DskAt TRDisk w Fd d xs k) (h5 : ∀ i, Fd i → F i) (h6 : ¬ Fd j) (h7 : ∀ g, v'.ownBlock = some g → ¬ Fd g) (h8 : ∀ i, F i → i < w.heap.size) :
    RJTo w F j d xs k ⟨s.term, s.vote, l⟩ (w.setCell ⟨j, 3, none⟩ v') := by
  have hf : Fr (fun i => i = j) w (w.setCell ⟨j, 3, none⟩ v') := (Fr.refl (fun i => i = j) w).setCell (p := ⟨j, 3, none⟩) (.inl rfl) _
  refine ⟨F, ⟨v', Fd, h1.set_ 3 _, h2, h3.fr' hf (h3.ne_blk h1 (by decide)), h4.fr hf (fun i hi he => h6 (he ▸ hi)), h5, h6, h7, fun i hi => Nat.lt_of_lt_of_le (h8 i hi) hf.size⟩, fun i hi => .inl hi, hf.mono fun i hi => hi ▸ h2⟩
end

theorem RJAt.still {w w' : World} {F : Nat → Prop} {j d : Nat} {xs : List UInt8} {k : Nat} {s : Js} (h : RJAt w F j d xs k s) (hf : Fr No w w') : RJTo w F j d xs k s w' := ⟨F, h.frNo hf, fun _ hi => .inl hi, hf.mono fun _ hi => hi.elim⟩
theorem RJTo.after {w w1 w' : World} {F : Nat → Prop} {j d : Nat} {xs : List UInt8} {k : Nat} {s : Js} (hf : Fr No w w1) (h : RJTo w1 F j d xs k s w') : RJTo w F j d xs k s w' := by
  obtain ⟨F', h1, h2, h3⟩ := h
  exact ⟨F', h1, fun i hi => (h2 i hi).imp id (Nat.le_trans hf.size), (hf.mono (G := F) fun _ hi => hi.elim).trans h3 fun i hi => .inl hi⟩

/-- Term, vote and log are forgotten. -/
theorem RJAt.forget {w : World} {F : Nat → Prop} {j d : Nat} {xs : List UInt8} {k : Nat} {s : Js} (h : RJAt w F j d xs k s) :
    RJTo w F j d xs k jsNew (((w.setCell ⟨j, 1, none⟩ (.int .i64 0)).setCell ⟨j, 2, none⟩ (.int .i64 (-1))).setCell ⟨j, 3, none⟩ (.slice none 0 0)) := by
  obtain ⟨v, Fd, h1, h2, h3, h4, h5, h6, h7, h8⟩ := h
  obtain ⟨F', g1, g2, g3⟩ := RJAt.setTV 0 (-1) h1 h2 h3 h4 h5 h6 h7 h8
  obtain ⟨v', Fd', k1, k2, k3, k4, k5, k6, k7, k8⟩ := g1
  have := RJAt.setLog (l := []) (v' := .slice none 0 0) k1 k2 (OwnN.nil _ _ _ _) k4 k5 k6 (fun g hg => by cases hg) k8
  obtain ⟨F2, m1, m2, m3⟩ := this
  exact ⟨F2, m1, fun i hi => (m2 i hi).elim (fun h => g2 i h) (fun h => .inr (Nat.le_trans g3.size h)), g3.trans m3 g2⟩

/-- Two steps of a journal. -/
theorem RJTo.then {w w1 w' : World} {F F1 : Nat → Prop} {j d : Nat} {ys : List UInt8} {m : Nat} {s' : Js} (hf : Fr F w w1) (hi : ∀ i, F1 i → F i ∨ w.heap.size ≤ i) (h : RJTo w1 F1 j d ys m s' w') : RJTo w F j d ys m s' w' := by
  obtain ⟨F2, g3, g4, g5⟩ := h
  exact ⟨F2, g3, fun i h => (g4 i h).elim (fun h => hi i h) (fun h => .inr (Nat.le_trans hf.size h)), hf.trans g5 hi⟩

theorem RJAt.ptr {w : World} {F : Nat → Prop} {j d : Nat} {xs : List UInt8} {k : Nat} {s : Js} (h : RJAt w F j d xs k s) : w.cell? ⟨j, 0, none⟩ = some (.pointer (some ⟨d, 0, none⟩)) := by
  obtain ⟨v, Fd, h1, _⟩ := h
  exact h1.cell 0

end Go.Proofs.Ytokblidfekbeeaa
/- Which replicas and which quorums there are. -/
namespace Go.Proofs.Ytokblidfekbeeaa
open Go.ChangeShapes Go.WideShapes Go.ChangeAt Go.RowKit
set_option linter.unusedVariables false
abbrev TRR : TypeId := 92
/-- A number of replicas that there can't be. -/
theorem p_new_bad (id n : Int) (w : World) (hn : ¬ (n = 1 ∨ n = 3 ∨ n = 5)) : Calls Try.prog 26 #[.int .i64 id, .int .i64 n] w fun e w' => e = .returned (.tuple #[.pointer none, .int .i64 1]) ∧ w = w' := by
  have hc : n < 1 ∨ (1 ≤ n ∧ 5 < n) ∨ n = 2 ∨ n = 4 := by omega
  rcases hc with h1 | ⟨h1, h2⟩ | rfl | rfl
  · have t1 : decide (n < 1) = true := decide_eq_true h1
    clear hn
    go_enter Try.func26, Try.ntmps26
    go_wp2_with fail
    go_ret2
    exact ⟨rfl, rfl⟩
  · have t1 : decide (n < 1) = false := decide_eq_false (by omega)
    have t2 : decide (5 < n) = true := decide_eq_true h2
    clear hn
    go_enter Try.func26, Try.ntmps26
    go_wp2_with fail
    go_ret2
    exact ⟨rfl, rfl⟩
  · clear hn
    go_enter Try.func26, Try.ntmps26
    go_wp2_with fail
    go_ret2
    exact ⟨rfl, rfl⟩
  · clear hn
    go_enter Try.func26, Try.ntmps26
    go_wp2_with fail
    go_ret2
    exact ⟨rfl, rfl⟩
/-- A replica that there can't be. -/
theorem p_new_bad2 (id : Int) (n : Nat) (w : World) (hn : n ≤ 5) (hodd : n % 2 = 1) (hid : id < 0 ∨ (n : Int) ≤ id) : Calls Try.prog 26 #[.int .i64 id, .int .i64 (n : Int)] w fun e w' => e = .returned (.tuple #[.pointer none, .int .i64 1]) ∧ w = w' := by
  have t1 : decide ((n : Int) < 1) = false := by simp; omega
  have t2 : decide (5 < (n : Int)) = false := by simp; omega
  have t3 : ((n : Int) % 2 == 0) = false := by simp; omega
  rcases hid with h | h
  · have t4 : decide (id < 0) = true := decide_eq_true h
    go_enter Try.func26, Try.ntmps26
    go_wp2_with fail
    go_ret2
    exact ⟨rfl, rfl⟩
  · have t4 : decide (id < 0) = false := decide_eq_false (by omega)
    have t5 : decide ((n : Int) ≤ id) = true := decide_eq_true h
    go_enter Try.func26, Try.ntmps26
    go_wp2_with fail
    go_ret2
    exact ⟨rfl, rfl⟩
/-- A number of replicas that there can't be. -/
theorem rp_new_no (id n : Int) (w : World) (hn : ¬ (n = 1 ∨ n = 3 ∨ n = 5)) : Calls Try.prog 27 #[.int .i64 id, .int .i64 n] w fun e w' => e = .returned (.tuple #[.pointer none, .int .i64 1]) ∧ w = w' := by
  have hc : n < 1 ∨ (1 ≤ n ∧ 5 < n) ∨ n = 2 ∨ n = 4 := by omega
  rcases hc with h1 | ⟨h1, h2⟩ | rfl | rfl
  · have t1 : decide (n < 1) = true := decide_eq_true h1
    clear hn
    go_enter Try.func27, Try.ntmps27
    go_wp2_with fail
    go_ret2
    exact ⟨rfl, rfl⟩
  · have t1 : decide (n < 1) = false := decide_eq_false (by omega)
    have t2 : decide (5 < n) = true := decide_eq_true h2
    clear hn
    go_enter Try.func27, Try.ntmps27
    go_wp2_with fail
    go_ret2
    exact ⟨rfl, rfl⟩
  · clear hn
    go_enter Try.func27, Try.ntmps27
    go_wp2_with fail
    go_ret2
    exact ⟨rfl, rfl⟩
  · clear hn
    go_enter Try.func27, Try.ntmps27
    go_wp2_with fail
    go_ret2
    exact ⟨rfl, rfl⟩
/-- A replica that there can't be. -/
theorem rp_new_no2 (id : Int) (n : Nat) (w : World) (hn : n ≤ 5) (hodd : n % 2 = 1) (hid : id < 0 ∨ (n : Int) ≤ id) : Calls Try.prog 27 #[.int .i64 id, .int .i64 (n : Int)] w fun e w' => e = .returned (.tuple #[.pointer none, .int .i64 1]) ∧ w = w' := by
  have t1 : decide ((n : Int) < 1) = false := by simp; omega
  have t2 : decide (5 < (n : Int)) = false := by simp; omega
  have t3 : ((n : Int) % 2 == 0) = false := by simp; omega
  rcases hid with h | h
  · have t4 : decide (id < 0) = true := decide_eq_true h
    go_enter Try.func27, Try.ntmps27
    go_wp2_with fail
    go_ret2
    exact ⟨rfl, rfl⟩
  · have t4 : decide (id < 0) = false := decide_eq_false (by omega)
    have t5 : decide ((n : Int) ≤ id) = true := decide_eq_true h
    go_enter Try.func27, Try.ntmps27
    go_wp2_with fail
    go_ret2
    exact ⟨rfl, rfl⟩
/-- The reference's replica p that has just been made. -/
def RNew (w : World) (F : Nat → Prop) (p : Nat) (id n : Nat) : Prop := ∃ j d Fj, Blk w p TRR #[.pointer (some ⟨j, 0, none⟩), .int .i64 (id : Int), .int .i64 (n : Int), .int .i64 1, .int .i64 0, .slice none 0 0, .slice none 0 0, .slice none 0 0] ∧ F p ∧ RJAt w Fj j d [] 0 jsNew ∧ (∀ i, Fj i → F i) ∧ (∀ i, F i → i < w.heap.size) ∧ ¬ Fj p
set_option maxHeartbeats 1000000 in
theorem rp_new (id n : Nat) (w : World) (hid : id < n) (hn : n ≤ 5) (hodd : n % 2 = 1) : Calls Try.prog 27 #[.int .i64 (id : Int), .int .i64 (n : Int)] w fun e w' => ∃ p F, e = .returned (.tuple #[.pointer (some ⟨p, 0, none⟩), .int .i64 0]) ∧ RNew w' F p id n ∧ (∀ i, F i → w.heap.size ≤ i) ∧ Fr No w w' := by
  have t1 : decide ((n : Int) < 1) = false := by simp; omega
  have t2 : decide (5 < (n : Int)) = false := by simp; omega
  have t3 : ((n : Int) % 2 == 0) = false := by simp; omega
  have t4 : decide ((id : Int) < 0) = false := by simp
  have t5 : decide (n ≤ id) = false := by simp; omega
  go_enter Try.func27, Try.ntmps27
  go_wp2_with fail
  refine (rj_new _).mono ?_
  rintro e w1 ⟨j, d, G, rfl, a1, n1, f1⟩
  have A1 := Lib.hid a1
  have N1 := Lib.hid n1
  have F1 := Lib.hid f1
  clear a1 n1 f1
  go_wp2_with fail
  go_ret2
  have hs := F1.out.size
  have hl := A1.out.lt
  refine ⟨w1.heap.size, fun i => G i ∨ i = w1.heap.size, rfl, ⟨j, d, G, Blk.new _ _ _, .inr rfl, A1.out.frNo (fr_alloc _ _), fun i hi => .inl hi, fun i hi => ?_, fun hi => Nat.lt_irrefl _ (hl _ hi)⟩, fun i hi => ?_, F1.out.alloc _⟩
  · rcases hi with hi | hi
    · have := hl i hi; simp; omega
    · simp; omega
  · rcases hi with hi | hi
    · exact N1.out i hi
    · omega
end Go.Proofs.Ytokblidfekbeeaa
/- Which quorums there are; the walk of QuorumNew. -/
namespace Go.Proofs.Ytokblidfekbeeaa
open Go.ChangeShapes Go.WideShapes Go.ChangeAt Go.RowKit
set_option linter.unusedVariables false
abbrev TRQ : TypeId := 64
abbrev TPRR : TypeId := 65
theorem ptrr_info : (Try.prog.info? TPRR).map (fun i => (i.zero, i.size, i.bytes)) = some (some (.pointer none), 1, 8) := by kernel_rfl
set_option maxHeartbeats 1000000 in
theorem q_new_no (n : Int) (w : World) (hn : ¬ (n = 1 ∨ n = 3 ∨ n = 5)) : Calls Try.prog 8 #[.int .i64 n] w fun e w' => e = .returned (.tuple #[.pointer none, .int .i64 1]) ∧ Fr No w w' := by
  have hno := fun W => p_new_bad 0 n W hn
  clear hn
  have HNO := Lib.hid hno
  clear hno
  by_cases h0 : 0 < n
  all_goals
    go_enter Try.func8, Try.ntmps8
    go_wp2_with fail
    go_loopw [5] (fun i wr => i = .int .i64 0 ∧ Fr No w wr) (fun _ _ => 0)
    case atStart => exact ⟨rfl, (by repeat (first | assumption | exact Fr.refl _ _ | refine Fr.alloc ?_ _ | refine Fr.drew ?_ | refine Fr.drewN ?_ _))⟩
    case round =>
      obtain ⟨rfl, hf⟩ := hrel
      have HF := Lib.hid hf
      clear hf
      first
        | have b1 : decide (0 < n) = true := decide_eq_true h0
        | have b1 : decide (0 < n) = false := decide_eq_false (by omega)
      go_wp2_with fail
      refine (HNO.out _).mono ?_
      rintro e w1 ⟨rfl, rfl⟩
      go_wp2_with fail
      go_ret2
      exact ⟨rfl, HF.out⟩
/-- The reference's quorum z has k replicas so far. -/
def NewR (w : World) (z k : Nat) (W : World) : Prop :=
  ∃ (A : Option Addr) (c : Nat) (ps : List Value), ps.length = k ∧ w.heap.size ≤ z ∧ Blk W z TRQ #[.slice A k c, .slice none 0 0, .slice none 0 0] ∧ Own W (fun b => w.heap.size ≤ b ∧ b ≠ z) TPRR (.slice A k c) ps ∧ Fr No w W
theorem NewR.next {w wr W1 W' : World} {z k p : Nat} {A : Option Addr} {c : Nat} {ps : List Value} {v' : Value}
    (h0 : ps.length = k) (hz : w.heap.size ≤ z) (h3 : Blk wr z TRQ #[.slice A k c, .slice none 0 0, .slice none 0 0]) (h4 : Own wr (fun b => w.heap.size ≤ b ∧ b ≠ z) TPRR (.slice A k c) ps) (h6 : Fr No w wr) (hf : Fr No wr W1)
    (ha : Appended (W1.alloc (.cells #[.pointer (some ⟨p, 0, none⟩)] TPRR)) 0 TPRR (.slice A k c) k ps [.pointer (some ⟨p, 0, none⟩)] 1 v' W') :
    NewR w z (k + 1) (W'.setCell ⟨z, 0, none⟩ v') ∧ Fr (fun b => w.heap.size ≤ b ∧ b ≠ z) W1 W' := by
  have hf2 : Fr No wr (W1.alloc (.cells #[.pointer (some ⟨p, 0, none⟩)] TPRR)) := hf.alloc _
  obtain ⟨o1, f1⟩ := (h4.frNo hf2).appended h0 rfl ha
  have hlen : (ps ++ [Value.pointer (some ⟨p, 0, none⟩)]).length = k + 1 := by simp [h0]
  obtain ⟨A', c', hv, -⟩ := o1.form
  rw [hlen] at hv
  subst hv
  have hsz := hf2.size
  have hzl := h3.lt
  have hw := h6.size
  have hfz : Fr (fun b => b = z) W' (W'.setCell ⟨z, 0, none⟩ (.slice A' (k + 1) c')) := fr_set W' ⟨z, 0, none⟩ _
  have hz2 : Blk W' z TRQ #[.slice A k c, .slice none 0 0, .slice none 0 0] := (h3.fr hf2 fun h => h).fr f1 fun hh => hh.2 rfl
  refine ⟨⟨A', c', _, hlen, hz, (hz2.set_ 0 _).conv rfl, (o1.fr hfz fun b hb e => ?_).mono fun b hb => ?_, ((h6.transNo hf2).trans f1 fun b hb => .inr hb.1).trans hfz fun b hb => .inr (by rw [hb]; exact hz)⟩, ((fr_alloc W1 _).mono (G := fun b => w.heap.size ≤ b ∧ b ≠ z) fun _ h => h.elim).trans f1 fun b hb => .inl hb⟩
  · rcases hb with hb | hb
    · exact hb.2 e
    · omega
  · rcases hb with hb | hb
    · exact hb
    · exact ⟨by omega, by omega⟩
set_option maxRecDepth 100000 in
set_option maxHeartbeats 8000000 in
theorem rq_new (n : Nat) (w : World) (h5 : n ≤ 5) (hodd : n % 2 = 1) : Calls Try.prog 9 #[.int .i64 (n : Int)] w fun e w' => ∃ z, e = .returned (.tuple #[.pointer (some ⟨z, 0, none⟩), .int .i64 0]) ∧ NewR w z n w' := by
  obtain ⟨i1, hi1, hz0, hz1, hz2⟩ := info_parts ptrr_info
  obtain ⟨W0, hW0⟩ : ∃ W0, W0 = w.alloc (.cells #[.slice none 0 0, .slice none 0 0, .slice none 0 0] TRQ) := ⟨_, rfl⟩
  obtain ⟨z, hz⟩ : ∃ z, z = w.heap.size := ⟨_, rfl⟩
  have hb0 : Blk W0 z TRQ #[.slice none 0 0, .slice none 0 0, .slice none 0 0] := by rw [hz, hW0]; exact Blk.new _ _ _
  have hzw : w.heap.size ≤ z := by rw [hz]; exact Nat.le_refl _
  have hstart : NewR w z 0 W0 := ⟨none, 0, [], rfl, hzw, hb0, Own.nil _ _ _, by rw [hW0]; exact fr_alloc _ _⟩
  have hrn := fun k W (hk : k < n) => rp_new k n W hk h5 hodd
  clear hzw
  have hgl := hb0.lt
  clear hb0
  have hn3 : n = 1 ∨ n = 3 ∨ n = 5 := by omega
  clear h5 hodd
  have HW0 := Lib.hid hW0
  have HZ := Lib.hid hz
  have HSTART := Lib.hid hstart
  have HRN := Lib.hid hrn
  clear hW0 hz hstart hrn
  rcases hn3 with rfl | rfl | rfl
  · change Calls Try.prog 9 #[.int .i64 1] w _
    go_enter Try.func9, Try.ntmps9
    go_upto_region 2 with fail
    rw [← HW0.out, ← HZ.out]
    clear HW0
    go_wp2_with fail
    go_loopw [5] (fun i wr => ∃ k : Nat, k ≤ 1 ∧ i = .int .i64 k ∧ NewR w z k wr) (fun i _ => 1 - (intOf i).toNat)
    case atStart => exact ⟨0, Nat.zero_le _, rfl, HSTART.out⟩
    case round =>
      obtain ⟨k, hk, rfl, hrel⟩ := hrel
      by_cases hlt : k < 1
      · have b1 : decide (k < 1) = true := decide_eq_true hlt
        have b2 : decide ((k : Int) < 1) = true := decide_eq_true (by omega)
        have b3 : decide (k ≤ 5) = true := decide_eq_true (by omega)
        have b4 : decide ((k : Int) ≤ 5) = true := decide_eq_true (by omega)
        have hnew := HRN.out k wr hlt
        obtain ⟨A, c, ps, a0, az, a3, a4, a6⟩ := hrel
        have hcap := a4.cap
        have hzl := a3.lt
        have hz0' := fun W (hf : Fr No wr W) => (⟨(a3.fr hf fun h => h).cell 0, (a3.fr hf fun h => h).frozen 0⟩ : W.cell? ⟨z, 0, none⟩ = some (.slice A k c) ∧ W.frozen? ⟨z, 0, none⟩ = false)
        have hz1' := fun W W' (hf : Fr No wr W) (hf' : Fr (fun b => w.heap.size ≤ b ∧ b ≠ z) W W') => (⟨((a3.fr hf fun h => h).fr hf' fun hh => hh.2 rfl).cell 0, ((a3.fr hf fun h => h).fr hf' fun hh => hh.2 rfl).frozen 0⟩ : W'.cell? ⟨z, 0, none⟩ = some (.slice A k c) ∧ W'.frozen? ⟨z, 0, none⟩ = false)
        have hown := fun W (hf : Fr No wr W) => (a4.frNo hf).own a0
        have hnext := fun W1 W' p v' hf ha => NewR.next (w := w) (W1 := W1) (W' := W') (p := p) (v' := v') a0 az a3 a4 a6 hf ha
        clear a0 az a3 a4 a6
        have HNEW := Lib.hid hnew
        have HZ0' := Lib.hid hz0'
        have HZ1' := Lib.hid hz1'
        have HOWN := Lib.hid hown
        have HNEXT := Lib.hid hnext
        clear hnew hz0' hz1' hown hnext
        go_wp2_with fail
        refine HNEW.out.mono ?_
        rintro e w1 ⟨p, F, rfl, r1, r2, r3⟩
        obtain ⟨z1, y1⟩ := HZ0'.out _ r3
        have hnx := Lib.hid fun W' v' ha => HNEXT.out w1 W' p v' r3 ha
        have R3 := Lib.hid r3
        have hzl1 := Nat.lt_of_lt_of_le hzl r3.size
        clear r1 r2 r3 HNEXT HZ0' HNEW
        go_wp2_with (at_builtin; refine wpList_append_rd _ rfl (.tmp 33) (.tmp 35) _ rfl 0 TPRR i1 _ 8 Try.underlying62 hi1 hz0 hz1 hz2 rfl (.slice A k c) k ps rfl (HOWN.out _ (R3.out.alloc _)) (w1.heap.size + 1) (some ⟨w1.heap.size, 0, none⟩) 1 1 [.pointer (some ⟨p, 0, none⟩)] rfl (fun h => by cases h) (Rd.new w1 _ TPRR rfl) rfl (fun u hu => by simp at hu; subst hu; rfl) (by unfold maxLen; omega) (by omega) (Nat.zero_le _) ?_)
        intro v1 w2 happ
        obtain ⟨A4, c4, rfl, n4⟩ := ownsRow_slice_form happ.1
        clear n4
        obtain ⟨t9, f9⟩ := hnx.out w2 _ happ
        obtain ⟨x9, y9⟩ := HZ1'.out _ _ R3.out f9
        have hzl2 := Nat.lt_of_lt_of_le hzl1 f9.size
        have T9 := Lib.hid t9
        clear happ t9 f9 hnx HZ1' HOWN R3 z1 y1
        go_wp2_with fail
        go_roundw
        case rel => exact ⟨k + 1, by omega, by go_num, T9.out⟩
        case measure => simp [intOf]; omega
      · obtain rfl : k = 1 := by omega
        have T9 := Lib.hid hrel
        clear hrel hlt
        go_wp2_with fail
        go_ret2
        exact ⟨z, rfl, T9.out⟩
  · change Calls Try.prog 9 #[.int .i64 3] w _
    go_enter Try.func9, Try.ntmps9
    go_upto_region 2 with fail
    rw [← HW0.out, ← HZ.out]
    clear HW0
    go_wp2_with fail
    go_loopw [5] (fun i wr => ∃ k : Nat, k ≤ 3 ∧ i = .int .i64 k ∧ NewR w z k wr) (fun i _ => 3 - (intOf i).toNat)
    case atStart => exact ⟨0, Nat.zero_le _, rfl, HSTART.out⟩
    case round =>
      obtain ⟨k, hk, rfl, hrel⟩ := hrel
      by_cases hlt : k < 3
      · have b1 : decide (k < 3) = true := decide_eq_true hlt
        have b2 : decide ((k : Int) < 3) = true := decide_eq_true (by omega)
        have b3 : decide (k ≤ 5) = true := decide_eq_true (by omega)
        have b4 : decide ((k : Int) ≤ 5) = true := decide_eq_true (by omega)
        have hnew := HRN.out k wr hlt
        obtain ⟨A, c, ps, a0, az, a3, a4, a6⟩ := hrel
        have hcap := a4.cap
        have hzl := a3.lt
        have hz0' := fun W (hf : Fr No wr W) => (⟨(a3.fr hf fun h => h).cell 0, (a3.fr hf fun h => h).frozen 0⟩ : W.cell? ⟨z, 0, none⟩ = some (.slice A k c) ∧ W.frozen? ⟨z, 0, none⟩ = false)
        have hz1' := fun W W' (hf : Fr No wr W) (hf' : Fr (fun b => w.heap.size ≤ b ∧ b ≠ z) W W') => (⟨((a3.fr hf fun h => h).fr hf' fun hh => hh.2 rfl).cell 0, ((a3.fr hf fun h => h).fr hf' fun hh => hh.2 rfl).frozen 0⟩ : W'.cell? ⟨z, 0, none⟩ = some (.slice A k c) ∧ W'.frozen? ⟨z, 0, none⟩ = false)
        have hown := fun W (hf : Fr No wr W) => (a4.frNo hf).own a0
        have hnext := fun W1 W' p v' hf ha => NewR.next (w := w) (W1 := W1) (W' := W') (p := p) (v' := v') a0 az a3 a4 a6 hf ha
        clear a0 az a3 a4 a6
        have HNEW := Lib.hid hnew
        have HZ0' := Lib.hid hz0'
        have HZ1' := Lib.hid hz1'
        have HOWN := Lib.hid hown
        have HNEXT := Lib.hid hnext
        clear hnew hz0' hz1' hown hnext
        go_wp2_with fail
        refine HNEW.out.mono ?_
        rintro e w1 ⟨p, F, rfl, r1, r2, r3⟩
        obtain ⟨z1, y1⟩ := HZ0'.out _ r3
        have hnx := Lib.hid fun W' v' ha => HNEXT.out w1 W' p v' r3 ha
        have R3 := Lib.hid r3
        have hzl1 := Nat.lt_of_lt_of_le hzl r3.size
        clear r1 r2 r3 HNEXT HZ0' HNEW
        go_wp2_with (at_builtin; refine wpList_append_rd _ rfl (.tmp 33) (.tmp 35) _ rfl 0 TPRR i1 _ 8 Try.underlying62 hi1 hz0 hz1 hz2 rfl (.slice A k c) k ps rfl (HOWN.out _ (R3.out.alloc _)) (w1.heap.size + 1) (some ⟨w1.heap.size, 0, none⟩) 1 1 [.pointer (some ⟨p, 0, none⟩)] rfl (fun h => by cases h) (Rd.new w1 _ TPRR rfl) rfl (fun u hu => by simp at hu; subst hu; rfl) (by unfold maxLen; omega) (by omega) (Nat.zero_le _) ?_)
        intro v1 w2 happ
        obtain ⟨A4, c4, rfl, n4⟩ := ownsRow_slice_form happ.1
        clear n4
        obtain ⟨t9, f9⟩ := hnx.out w2 _ happ
        obtain ⟨x9, y9⟩ := HZ1'.out _ _ R3.out f9
        have hzl2 := Nat.lt_of_lt_of_le hzl1 f9.size
        have T9 := Lib.hid t9
        clear happ t9 f9 hnx HZ1' HOWN R3 z1 y1
        go_wp2_with fail
        go_roundw
        case rel => exact ⟨k + 1, by omega, by go_num, T9.out⟩
        case measure => simp [intOf]; omega
      · obtain rfl : k = 3 := by omega
        have T9 := Lib.hid hrel
        clear hrel hlt
        go_wp2_with fail
        go_ret2
        exact ⟨z, rfl, T9.out⟩
  · change Calls Try.prog 9 #[.int .i64 5] w _
    go_enter Try.func9, Try.ntmps9
    go_upto_region 2 with fail
    rw [← HW0.out, ← HZ.out]
    clear HW0
    go_wp2_with fail
    go_loopw [5] (fun i wr => ∃ k : Nat, k ≤ 5 ∧ i = .int .i64 k ∧ NewR w z k wr) (fun i _ => 5 - (intOf i).toNat)
    case atStart => exact ⟨0, Nat.zero_le _, rfl, HSTART.out⟩
    case round =>
      obtain ⟨k, hk, rfl, hrel⟩ := hrel
      by_cases hlt : k < 5
      · have b1 : decide (k < 5) = true := decide_eq_true hlt
        have b2 : decide ((k : Int) < 5) = true := decide_eq_true (by omega)
        have b3 : decide (k ≤ 5) = true := decide_eq_true (by omega)
        have b4 : decide ((k : Int) ≤ 5) = true := decide_eq_true (by omega)
        have hnew := HRN.out k wr hlt
        obtain ⟨A, c, ps, a0, az, a3, a4, a6⟩ := hrel
        have hcap := a4.cap
        have hzl := a3.lt
        have hz0' := fun W (hf : Fr No wr W) => (⟨(a3.fr hf fun h => h).cell 0, (a3.fr hf fun h => h).frozen 0⟩ : W.cell? ⟨z, 0, none⟩ = some (.slice A k c) ∧ W.frozen? ⟨z, 0, none⟩ = false)
        have hz1' := fun W W' (hf : Fr No wr W) (hf' : Fr (fun b => w.heap.size ≤ b ∧ b ≠ z) W W') => (⟨((a3.fr hf fun h => h).fr hf' fun hh => hh.2 rfl).cell 0, ((a3.fr hf fun h => h).fr hf' fun hh => hh.2 rfl).frozen 0⟩ : W'.cell? ⟨z, 0, none⟩ = some (.slice A k c) ∧ W'.frozen? ⟨z, 0, none⟩ = false)
        have hown := fun W (hf : Fr No wr W) => (a4.frNo hf).own a0
        have hnext := fun W1 W' p v' hf ha => NewR.next (w := w) (W1 := W1) (W' := W') (p := p) (v' := v') a0 az a3 a4 a6 hf ha
        clear a0 az a3 a4 a6
        have HNEW := Lib.hid hnew
        have HZ0' := Lib.hid hz0'
        have HZ1' := Lib.hid hz1'
        have HOWN := Lib.hid hown
        have HNEXT := Lib.hid hnext
        clear hnew hz0' hz1' hown hnext
        go_wp2_with fail
        refine HNEW.out.mono ?_
        rintro e w1 ⟨p, F, rfl, r1, r2, r3⟩
        obtain ⟨z1, y1⟩ := HZ0'.out _ r3
        have hnx := Lib.hid fun W' v' ha => HNEXT.out w1 W' p v' r3 ha
        have R3 := Lib.hid r3
        have hzl1 := Nat.lt_of_lt_of_le hzl r3.size
        clear r1 r2 r3 HNEXT HZ0' HNEW
        go_wp2_with (at_builtin; refine wpList_append_rd _ rfl (.tmp 33) (.tmp 35) _ rfl 0 TPRR i1 _ 8 Try.underlying62 hi1 hz0 hz1 hz2 rfl (.slice A k c) k ps rfl (HOWN.out _ (R3.out.alloc _)) (w1.heap.size + 1) (some ⟨w1.heap.size, 0, none⟩) 1 1 [.pointer (some ⟨p, 0, none⟩)] rfl (fun h => by cases h) (Rd.new w1 _ TPRR rfl) rfl (fun u hu => by simp at hu; subst hu; rfl) (by unfold maxLen; omega) (by omega) (Nat.zero_le _) ?_)
        intro v1 w2 happ
        obtain ⟨A4, c4, rfl, n4⟩ := ownsRow_slice_form happ.1
        clear n4
        obtain ⟨t9, f9⟩ := hnx.out w2 _ happ
        obtain ⟨x9, y9⟩ := HZ1'.out _ _ R3.out f9
        have hzl2 := Nat.lt_of_lt_of_le hzl1 f9.size
        have T9 := Lib.hid t9
        clear happ t9 f9 hnx HZ1' HOWN R3 z1 y1
        go_wp2_with fail
        go_roundw
        case rel => exact ⟨k + 1, by omega, by go_num, T9.out⟩
        case measure => simp [intOf]; omega
      · obtain rfl : k = 5 := by omega
        have T9 := Lib.hid hrel
        clear hrel hlt
        go_wp2_with fail
        go_ret2
        exact ⟨z, rfl, T9.out⟩
set_option maxHeartbeats 1000000 in
theorem rq_new_no (n : Int) (w : World) (hn : ¬ (n = 1 ∨ n = 3 ∨ n = 5)) : Calls Try.prog 9 #[.int .i64 n] w fun e w' => e = .returned (.tuple #[.pointer none, .int .i64 1]) ∧ Fr No w w' := by
  have hno := fun W => rp_new_no 0 n W hn
  have hc : n < 1 ∨ 1 < n := by omega
  clear hn
  have HNO := Lib.hid hno
  clear hno
  rcases hc with h1 | h1
  · have m1 : ¬ (1 : Int) < n := by omega
    have m3 : ¬ (1 : Int) ≤ n := by omega
    have m4 : n ≤ 1 := by omega
    have m5 : max n 1 = 1 := by omega
    go_enter Try.func9, Try.ntmps9
    go_wp2_with fail
    go_loopw [5] (fun i wr => i = .int .i64 0 ∧ Fr No w wr) (fun _ _ => 0)
    case atStart => exact ⟨rfl, (by repeat (first | assumption | exact Fr.refl _ _ | refine Fr.alloc ?_ _ | refine Fr.drew ?_ | refine Fr.drewN ?_ _))⟩
    case round =>
      obtain ⟨rfl, hf⟩ := hrel
      have HF := Lib.hid hf
      clear hf
      go_wp2_with fail
      refine (HNO.out _).mono ?_
      rintro e w1 ⟨rfl, rfl⟩
      go_wp2_with fail
      go_ret2
      exact ⟨rfl, HF.out⟩
  · have m1 : ¬ n < 1 := by omega
    have m3 : (1 : Int) ≤ n := by omega
    have m4 : ¬ n ≤ 1 := by omega
    have m5 : max n 1 = n := by omega
    have m6 : decide (0 < n) = true := decide_eq_true (by omega)
    go_enter Try.func9, Try.ntmps9
    go_wp2_with fail
    go_loopw [5] (fun i wr => i = .int .i64 0 ∧ Fr No w wr) (fun _ _ => 0)
    case atStart => exact ⟨rfl, (by repeat (first | assumption | exact Fr.refl _ _ | refine Fr.alloc ?_ _ | refine Fr.drew ?_ | refine Fr.drewN ?_ _))⟩
    case round =>
      obtain ⟨rfl, hf⟩ := hrel
      have HF := Lib.hid hf
      clear hf
      go_wp2_with fail
      refine (HNO.out _).mono ?_
      rintro e w1 ⟨rfl, rfl⟩
      go_wp2_with fail
      go_ret2
      exact ⟨rfl, HF.out⟩
set_option maxHeartbeats 4000000 in
theorem QuorumNew_walk (a0 : Int) (w : World) (w0 : (Lit.int .i64 a0).wf = true) :
    Calls Try.prog 3 #[.int .i64 a0] w fun e w' => e = .returned (.bool true) ∧ Below w.heap.size w w' := by
  have hbt := fun n W => between_any n (-1) 7 W (by decide) (by decide) (by decide)
  have HBT := Lib.hid hbt
  clear hbt
  go_enter Try.func3, Try.ntmps3
  go_wp2_with fail
  go_loopw [0, 3] (fun nv iv wr => ∃ (n : Int) (i : Nat), nv = .int .i64 n ∧ i ≤ 2 ∧ iv = .int .i64 i ∧ Fr No w wr) (fun _ iv _ => 2 - (intOf iv).toNat)
  case atStart => exact ⟨a0, 0, rfl, by omega, rfl, Fr.refl _ _⟩
  case round =>
    obtain ⟨n, i, rfl, hi, rfl, hf⟩ := hrel
    have HF := Lib.hid hf
    clear hf
    by_cases hlt : i < 2
    case neg =>
      obtain rfl : i = 2 := by omega
      go_wp2_with fail
      refine (awake10_any _).mono ?_
      rintro e w1 ⟨rfl, f1⟩
      go_wp2_with fail
      go_ret
      exact ⟨rfl, (HF.out.transNo f1).belowNo⟩
    have b1 : decide (i < 2) = true := decide_eq_true hlt
    have b2 : decide ((i : Int) < 2) = true := decide_eq_true (by omega)
    by_cases hg : n = 1 ∨ n = 3 ∨ n = 5
    · obtain ⟨N, rfl⟩ : ∃ N : Nat, n = (N : Int) := ⟨n.toNat, by omega⟩
      have q1 := Lib.hid fun W => q_new N W (by omega) (by omega)
      have q2 := Lib.hid fun W => rq_new N W (by omega) (by omega)
      clear hg
      go_wp2_with fail
      refine (q1.out _).mono ?_
      rintro e w1 ⟨z, lab, pv, rfl, -, -, f1⟩
      have F1 := Lib.hid (HF.out.transNo f1)
      clear f1 HF
      go_wp2_with fail
      refine (q2.out _).mono ?_
      rintro e w2 ⟨z2, rfl, A, c, ps, -, -, -, -, f2⟩
      have F2 := Lib.hid (F1.out.transNo f2)
      clear f2 F1 q1 q2
      go_wp2_with fail
      refine (HBT.out _ _).mono ?_
      rintro e w3 ⟨rfl, rfl⟩
      go_wp2_with fail
      go_roundw
      case rel => exact ⟨_, i + 1, rfl, by omega, by go_num, F2.out⟩
      case measure => simp [intOf]; omega
    · have q1 := Lib.hid fun W => q_new_no n W hg
      have q2 := Lib.hid fun W => rq_new_no n W hg
      clear hg
      go_wp2_with fail
      refine (q1.out _).mono ?_
      rintro e w1 ⟨rfl, f1⟩
      have F1 := Lib.hid (HF.out.transNo f1)
      clear f1 HF
      go_wp2_with fail
      refine (q2.out _).mono ?_
      rintro e w2 ⟨rfl, f2⟩
      have F2 := Lib.hid (F1.out.transNo f2)
      clear f2 F1 q1 q2
      go_wp2_with fail
      refine (HBT.out _ _).mono ?_
      rintro e w3 ⟨rfl, rfl⟩
      go_wp2_with fail
      go_roundw
      case rel => exact ⟨_, i + 1, rfl, by omega, by go_num, F2.out⟩
      case measure => simp [intOf]; omega
end Go.Proofs.Ytokblidfekbeeaa
