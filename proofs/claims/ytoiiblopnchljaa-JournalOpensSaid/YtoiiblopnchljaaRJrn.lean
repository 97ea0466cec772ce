/-
  The reference's journal in memory; the contracts of its readers, of setTerm.
-/
import Derived.Test.YtoiiblopnchljaaJrnF
import Derived.Test.YtoiiblopnchljaaWirTakeR
namespace Go.Proofs.Ytoiiblopnchljaa
open Go.ChangeShapes Go.WideShapes Go.ChangeAt Go.RowKit
set_option linter.unusedVariables false

abbrev TRJ : TypeId := 56
/-- The journal j has the disk d with the bytes xs, of which k are durable, and remembers s; it lies in blocks of F. -/
def RJAt (w : World) (F : Nat → Prop) (j d : Nat) (xs : List UInt8) (k : Nat) (s : Js) : Prop :=
  ∃ v Fd, Blk w j TRJ #[.pointer (some ⟨d, 0, none⟩), .int .i64 s.term, .int .i64 s.vote, v] ∧ F j ∧ OwnN w F TLg 10 v s.log.length (logV s.log) ∧ DskAt TRDisk w Fd d xs k ∧ (∀ i, Fd i → F i) ∧ ¬ Fd j ∧ (∀ g, v.ownBlock = some g → ¬ Fd g) ∧ ∀ i, F i → i < w.heap.size
/-- What a call leaves of a journal that lay in F. -/
def RJTo (w : World) (F : Nat → Prop) (j d : Nat) (xs : List UInt8) (k : Nat) (s : Js) (w' : World) : Prop :=
  ∃ F', RJAt w' F' j d xs k s ∧ (∀ i, F' i → F i ∨ w.heap.size ≤ i) ∧ Fr F w w'

section
variable {w w' w1 : World} {F G : Nat → Prop} {j d : Nat} {xs : List UInt8} {k : Nat} {s : Js}
theorem RJAt.fr (h : RJAt w F j d xs k s) (hf : Fr G w w') (hd : ∀ i, F i → ¬ G i) : RJAt w' F j d xs k s := by
  obtain ⟨v, Fd, h1, h2, h3, h4, h5, h6, h7, h8⟩ := h
  exact ⟨v, Fd, h1.fr hf (hd j h2), h2, h3.fr' hf fun g hg => hd g (h3.2 g hg), h4.fr hf fun i hi => hd i (h5 i hi), h5, h6, h7, fun i hi => Nat.lt_of_lt_of_le (h8 i hi) hf.size⟩
theorem RJAt.frNo (h : RJAt w F j d xs k s) (hf : Fr No w w') : RJAt w' F j d xs k s := h.fr hf fun _ _ hi => hi
theorem RJAt.lt (h : RJAt w F j d xs k s) : ∀ i, F i → i < w.heap.size := by
  obtain ⟨v, Fd, h1, h2, h3, h4, h5, h6, h7, h8⟩ := h
  exact h8
theorem RJAt.self (h : RJAt w F j d xs k s) : RJTo w F j d xs k s w := ⟨F, h, fun _ hi => .inl hi, Fr.refl _ _⟩
/-- The journal's cells, for a walk. -/
theorem RJAt.open_ (h : RJAt w F j d xs k s) : ∃ A c Fd, Blk w j TRJ #[.pointer (some ⟨d, 0, none⟩), .int .i64 s.term, .int .i64 s.vote, .slice A s.log.length c] ∧ F j ∧ OwnN w F TLg 10 (.slice A s.log.length c) s.log.length (logV s.log) ∧ DskAt TRDisk w Fd d xs k ∧ (∀ i, Fd i → F i) ∧ ¬ Fd j ∧ (∀ g, Value.ownBlock (.slice A s.log.length c) = some g → ¬ Fd g) ∧ (∀ i, F i → i < w.heap.size) ∧
      w.cell? ⟨j, 0, none⟩ = some (.pointer (some ⟨d, 0, none⟩)) ∧ w.cell? ⟨j, 1, none⟩ = some (.int .i64 s.term) ∧ w.cell? ⟨j, 2, none⟩ = some (.int .i64 s.vote) ∧ w.cell? ⟨j, 3, none⟩ = some (.slice A s.log.length c) ∧ (A = none → s.log.length = 0) := by
  obtain ⟨v, Fd, h1, h2, h3, h4, h5, h6, h7, h8⟩ := h
  obtain ⟨A, c, rfl, hn⟩ := h3.form
  exact ⟨A, c, Fd, h1, h2, h3, h4, h5, h6, h7, h8, h1.cell 0, h1.cell 1, h1.cell 2, h1.cell 3, hn⟩
/-- The disk of a journal has turned. -/
theorem RJAt.disk {v : Value} {Fd : Nat → Prop} {ys : List UInt8} {m : Nat} (h1 : Blk w j TRJ #[.pointer (some ⟨d, 0, none⟩), .int .i64 s.term, .int .i64 s.vote, v]) (h2 : F j) (h3 : OwnN w F TLg 10 v s.log.length (logV s.log)) (h5 : ∀ i, Fd i → F i) (h6 : ¬ Fd j) (h7 : ∀ g, v.ownBlock = some g → ¬ Fd g) (h8 : ∀ i, F i → i < w.heap.size)
    (hd : DskTo TRDisk w Fd d ys m w') : RJTo w F j d ys m s w' := by
  obtain ⟨Fd', g1, g2, g3⟩ := hd
  have hjl := h8 j h2
  refine ⟨fun i => F i ∨ (w.heap.size ≤ i ∧ i < w'.heap.size), ⟨v, Fd', h1.fr g3 h6, .inl h2, (h3.fr' g3 h7).mono fun i hi => .inl hi, g1, ?_, ?_, ?_, ?_⟩, ?_, g3.mono h5⟩
  · intro i hi
    have := g1.lt i hi
    rcases g2 i hi with h | h
    · exact .inl (h5 i h)
    · exact .inr ⟨h, this⟩
  · intro h
    rcases g2 j h with h | h
    · exact h6 h
    · omega
  · intro g hg h
    have hl := h3.lt g hg
    rcases g2 g h with h | h
    · exact h7 g hg h
    · omega
  · intro i hi
    rcases hi with h | h
    · exact Nat.lt_of_lt_of_le (h8 i h) g3.size
    · exact h.2
  · intro i hi
    rcases hi with h | h
    · exact .inl h
    · exact .inr h.1
theorem RJTo.trans {ys : List UInt8} {m : Nat} {s' : Js} (h : RJTo w F j d xs k s w1) (h2 : ∀ F', RJAt w1 F' j d xs k s → RJTo w1 F' j d ys m s' w') : RJTo w F j d ys m s' w' := by
  obtain ⟨F1, h3, h4, h5⟩ := h
  obtain ⟨F2, g3, g4, g5⟩ := h2 F1 h3
  refine ⟨F2, g3, fun i hi => ?_, h5.trans g5 h4⟩
  rcases g4 i hi with h | h
  · exact h4 i h
  · exact .inr (Nat.le_trans h5.size h)
end

theorem rj_new (w : World) :
    Calls Try.prog 25 #[] w fun e w' => ∃ j d F, e = .returned (.pointer (some ⟨j, 0, none⟩)) ∧ RJAt w' F j d [] 0 jsNew ∧ (∀ i, F i → w.heap.size ≤ i) ∧ Fr No w w' := by
  go_enter Try.func25, Try.ntmps25
  go_wp2_with fail
  refine (rdisk_new _).mono ?_
  rintro e w1 ⟨rfl, h1, f1⟩
  have H1 := Lib.hid h1
  have F1 := Lib.hid f1
  clear h1 f1
  go_wp2_with fail
  go_ret
  have hs := F1.out.size
  have hd := H1.out.lt w.heap.size rfl
  refine ⟨w1.heap.size, w.heap.size, fun i => i = w.heap.size ∨ i = w1.heap.size, rfl, ⟨.slice none 0 0, fun i => i = w.heap.size, Blk.new _ _ _, .inr rfl, OwnN.nil _ _ _ _, H1.out.frNo (fr_alloc _ _), fun i hi => .inl hi, ?_, fun g hg => (by cases hg), ?_⟩, ?_, F1.out.alloc _⟩
  · intro h
    omega
  · intro i hi
    simp
    omega
  · intro i hi
    omega

set_option maxHeartbeats 2000000 in
theorem rj_at {w : World} {F : Nat → Prop} {j d : Nat} {xs : List UInt8} {k : Nat} {s : Js} (h : RJAt w F j d xs k s) (i : Int) :
    Calls Try.prog 62 #[.pointer (some ⟨j, 0, none⟩), .int .i64 i] w fun e w' => e = .returned (.tuple #[(atJ s.log i).1.v, .bool (atJ s.log i).2]) ∧ Fr No w w' := by
  obtain ⟨A, c, Fd, h1, h2, h3, h4, h5, h6, h7, h8, c0, c1, c2, c3, hn⟩ := h.open_
  have hjl := h1.lt
  clear h h1 h2 h4 h5 h6 h7 h8
  by_cases h0 : i < 0
  · have ha : atJ s.log i = (lgZero, false) := by unfold atJ; rw [if_neg (by omega)]
    rw [ha]
    have t1 : decide (i < 0) = true := by simpa using h0
    clear ha hn h3
    go_enter Try.func62, Try.ntmps62
    go_wp2_with fail
    refine bodyPost_ret (v := .tuple #[.agg _, .bool false]) (by simp [results, Try.results62, go_sem]) rfl ⟨rfl, ?_⟩
    exact fr_alloc _ _
  · have t1 : decide (i < 0) = false := by simpa using h0
    obtain ⟨n, rfl⟩ : ∃ n : Nat, i = (n : Int) := ⟨i.toNat, by omega⟩
    by_cases h9 : s.log.length ≤ n
    · have ha : atJ s.log (n : Int) = (lgZero, false) := by unfold atJ; rw [if_pos (by omega), Int.toNat_natCast, List.getElem?_eq_none h9]
      rw [ha]
      have t2 : decide ((s.log.length : Int) ≤ (n : Int)) = true := by simpa using h9
      clear ha hn h3
      go_enter Try.func62, Try.ntmps62
      go_wp2_with fail
      refine bodyPost_ret (v := .tuple #[.agg _, .bool false]) (by simp [results, Try.results62, go_sem]) rfl ⟨rfl, ?_⟩
      exact fr_alloc _ _
    · obtain ⟨x, hx⟩ : ∃ x, s.log[n]? = some x := ⟨_, List.getElem?_eq_getElem (by omega)⟩
      have ha : atJ s.log (n : Int) = (x, true) := by unfold atJ; rw [if_pos (by omega), Int.toNat_natCast, hx]
      rw [ha]
      have t2 : decide ((s.log.length : Int) ≤ (n : Int)) = false := by simp; omega
      obtain ⟨b, rfl, hb, -, hc⟩ := h3.head (by omega)
      have hlt : n < s.log.length := by omega
      have e0 : w.cell? ⟨b, n * 10, none⟩ = some (.int .i64 x.term) := by rw [← Nat.add_zero (n * 10), hc _ (by rw [logV_len]; omega), logV_get s.log n 0 x hx (by omega)]; rfl
      have e1 : w.cell? ⟨b, n * 10 + 1, none⟩ = some (.int .i64 x.e.kind) := by rw [hc _ (by rw [logV_len]; omega), logV_get s.log n 1 x hx (by omega)]; rfl
      have e2 : w.cell? ⟨b, n * 10 + 2, none⟩ = some (.int .i64 x.e.tick) := by rw [hc _ (by rw [logV_len]; omega), logV_get s.log n 2 x hx (by omega)]; rfl
      have e3 : w.cell? ⟨b, n * 10 + 3, none⟩ = some (.int .i64 x.e.tenant) := by rw [hc _ (by rw [logV_len]; omega), logV_get s.log n 3 x hx (by omega)]; rfl
      have e4 : w.cell? ⟨b, n * 10 + 4, none⟩ = some (.int .i64 x.e.cell) := by rw [hc _ (by rw [logV_len]; omega), logV_get s.log n 4 x hx (by omega)]; rfl
      have e5 : w.cell? ⟨b, n * 10 + 5, none⟩ = some (.int .i64 x.e.other) := by rw [hc _ (by rw [logV_len]; omega), logV_get s.log n 5 x hx (by omega)]; rfl
      have e6 : w.cell? ⟨b, n * 10 + 6, none⟩ = some (.int .i64 x.e.epoch) := by rw [hc _ (by rw [logV_len]; omega), logV_get s.log n 6 x hx (by omega)]; rfl
      have e7 : w.cell? ⟨b, n * 10 + 7, none⟩ = some (.int .i64 x.e.from_) := by rw [hc _ (by rw [logV_len]; omega), logV_get s.log n 7 x hx (by omega)]; rfl
      have e8 : w.cell? ⟨b, n * 10 + 8, none⟩ = some (.int .i64 x.e.until_) := by rw [hc _ (by rw [logV_len]; omega), logV_get s.log n 8 x hx (by omega)]; rfl
      have e9 : w.cell? ⟨b, n * 10 + 9, none⟩ = some (.int .i64 x.e.n) := by rw [hc _ (by rw [logV_len]; omega), logV_get s.log n 9 x hx (by omega)]; rfl
      clear ha hn h3 hc h9
      have HX := Lib.hid hx
      clear hx
      go_enter Try.func62, Try.ntmps62
      go_wp2_with fail
      refine bodyPost_ret (v := .tuple #[.agg _, .bool true]) (by simp [results, Try.results62, go_sem]) rfl ⟨rfl, ?_⟩
      exact fr_alloc _ _

theorem rj_termAt {w : World} {F : Nat → Prop} {j d : Nat} {xs : List UInt8} {k : Nat} {s : Js} (h : RJAt w F j d xs k s) (i : Int) :
    Calls Try.prog 96 #[.pointer (some ⟨j, 0, none⟩), .int .i64 i] w fun e w' => e = .returned (.int .i64 (termAt s.log i)) ∧ Fr No w w' := by
  have hA := rj_at h i
  rw [← atJ_term]
  revert hA
  generalize (atJ s.log i).1 = x
  generalize (atJ s.log i).2 = b
  intro hA
  unfold Lg.v at hA
  have HA := Lib.hid hA
  clear hA
  clear h
  go_enter Try.func96, Try.ntmps96
  go_wp2_with fail
  refine HA.out.mono ?_
  rintro e w1 ⟨rfl, f1⟩
  have F1 := Lib.hid f1
  clear f1
  go_wp2_with fail
  go_ret
  exact ⟨rfl, F1.out.alloc _⟩

section
variable {w : World} {F : Nat → Prop} {j d : Nat} {xs : List UInt8} {k : Nat} {s : Js} {v : Value} {Fd : Nat → Prop}
theorem RJAt.setTV (t u : Int) (h1 : Blk w j TRJ #[.pointer (some ⟨d, 0, none⟩), .int .i64 s.term, .int .i64 s.vote, v]) (h2 : F j) (h3 : OwnN w F TLg 10 v s.log.length (logV s.log)) (h4 : DskAt TRDisk w Fd d xs k) (h5 : ∀ i, Fd i → F i) (h6 : ¬ Fd j) (h7 : ∀ g, v.ownBlock = some g → ¬ Fd g) (h8 : ∀ i, F i → i < w.heap.size) :
    RJTo w F j d xs k ⟨t, u, s.log⟩ ((w.setCell ⟨j, 1, none⟩ (.int .i64 t)).setCell ⟨j, 2, none⟩ (.int .i64 u)) := by
  have hf : Fr (fun i => i = j) w ((w.setCell ⟨j, 1, none⟩ (.int .i64 t)).setCell ⟨j, 2, none⟩ (.int .i64 u)) := ((Fr.refl (fun i => i = j) w).setCell (p := ⟨j, 1, none⟩) (.inl rfl) _).setCell (p := ⟨j, 2, none⟩) (.inl rfl) _
  refine ⟨F, ⟨v, Fd, (h1.set_ 1 _).set_ 2 _, h2, h3.fr' hf (h3.ne_blk h1 (by decide)), h4.fr hf (fun i hi he => h6 (he ▸ hi)), h5, h6, h7, fun i hi => Nat.lt_of_lt_of_le (h8 i hi) hf.size⟩, fun i hi => .inl hi, hf.mono fun i hi => hi ▸ h2⟩
theorem RJAt.setLog {v' : Value} {l : List Lg} (h1 : Blk w j TRJ #[.pointer (some ⟨d, 0, none⟩), .int .i64 s.term, .int .i64 s.vote, v]) (h2 : F j) (h3 : OwnN w F TLg 10 v' l.length (logV l)) (h4 : DskAt TRDisk w Fd d xs k) (h5 : ∀ i, Fd i → F i) (h6 : ¬ Fd j) (h7 : ∀ g, v'.ownBlock = some g → ¬ Fd g) (h8 : ∀ i, F i → i < w.heap.size) :
    RJTo w F j d xs k ⟨s.term, s.vote, l⟩ (w.setCell ⟨j, 3, none⟩ v') := by
  have hf : Fr (fun i => i = j) w (w.setCell ⟨j, 3, none⟩ v') := (Fr.refl (fun i => i = j) w).setCell (p := ⟨j, 3, none⟩) (.inl rfl) _
  refine ⟨F, ⟨v', Fd, h1.set_ 3 _, h2, h3.fr' hf (h3.ne_blk h1 (by decide)), h4.fr hf (fun i hi he => h6 (he ▸ hi)), h5, h6, h7, fun i hi => Nat.lt_of_lt_of_le (h8 i hi) hf.size⟩, fun i hi => .inl hi, hf.mono fun i hi => hi ▸ h2⟩
end

theorem RJAt.still {w w' : World} {F : Nat → Prop} {j d : Nat} {xs : List UInt8} {k : Nat} {s : Js} (h : RJAt w F j d xs k s) (hf : Fr No w w') : RJTo w F j d xs k s w' := ⟨F, h.frNo hf, fun _ hi => .inl hi, hf.mono fun _ hi => hi.elim⟩
theorem RJTo.after {w w1 w' : World} {F : Nat → Prop} {j d : Nat} {xs : List UInt8} {k : Nat} {s : Js} (hf : Fr No w w1) (h : RJTo w1 F j d xs k s w') : RJTo w F j d xs k s w' := by
  obtain ⟨F', h1, h2, h3⟩ := h
  exact ⟨F', h1, fun i hi => (h2 i hi).imp id (Nat.le_trans hf.size), (hf.mono (G := F) fun _ hi => hi.elim).trans h3 fun i hi => .inl hi⟩

/-- Term, vote and log are forgotten. -/
theorem RJAt.forget {w : World} {F : Nat → Prop} {j d : Nat} {xs : List UInt8} {k : Nat} {s : Js} (h : RJAt w F j d xs k s) :
    RJTo w F j d xs k jsNew (((w.setCell ⟨j, 1, none⟩ (.int .i64 0)).setCell ⟨j, 2, none⟩ (.int .i64 (-1))).setCell ⟨j, 3, none⟩ (.slice none 0 0)) := by
  obtain ⟨v, Fd, h1, h2, h3, h4, h5, h6, h7, h8⟩ := h
  obtain ⟨F', g1, g2, g3⟩ := RJAt.setTV 0 (-1) h1 h2 h3 h4 h5 h6 h7 h8
  obtain ⟨v', Fd', k1, k2, k3, k4, k5, k6, k7, k8⟩ := g1
  have := RJAt.setLog (l := []) (v' := .slice none 0 0) k1 k2 (OwnN.nil _ _ _ _) k4 k5 k6 (fun g hg => by cases hg) k8
  obtain ⟨F2, m1, m2, m3⟩ := this
  exact ⟨F2, m1, fun i hi => (m2 i hi).elim (fun h => g2 i h) (fun h => .inr (Nat.le_trans g3.size h)), g3.trans m3 g2⟩

/-- Two steps of a journal. -/
theorem RJTo.then {w w1 w' : World} {F F1 : Nat → Prop} {j d : Nat} {ys : List UInt8} {m : Nat} {s' : Js} (hf : Fr F w w1) (hi : ∀ i, F1 i → F i ∨ w.heap.size ≤ i) (h : RJTo w1 F1 j d ys m s' w') : RJTo w F j d ys m s' w' := by
  obtain ⟨F2, g3, g4, g5⟩ := h
  exact ⟨F2, g3, fun i h => (g4 i h).elim (fun h => hi i h) (fun h => .inr (Nat.le_trans hf.size h)), hf.trans g5 hi⟩

theorem RJAt.ptr {w : World} {F : Nat → Prop} {j d : Nat} {xs : List UInt8} {k : Nat} {s : Js} (h : RJAt w F j d xs k s) : w.cell? ⟨j, 0, none⟩ = some (.pointer (some ⟨d, 0, none⟩)) := by
  obtain ⟨v, Fd, h1, _⟩ := h
  exact h1.cell 0

end Go.Proofs.Ytoiiblopnchljaa
