/-
  Several texts in one: DiskR.
-/
import Derived.Test.YtokblidfekbeeaaZ07
import Derived.Deep.RegionHeld3
import Derived.IntWalk
/- The contracts of the reference's disk, and of both disks' Copy. -/
namespace Go.Proofs.Ytokblidfekbeeaa
open Go.ChangeShapes Go.WideShapes Go.ChangeAt Go.RowKit
set_option linter.unusedVariables false

/-- A disk of type T: its bytes, the number of durable ones; it lies in blocks of F. -/
def DskAt (T : TypeId) (w : World) (F : Nat → Prop) (d : Nat) (xs : List UInt8) (k : Nat) : Prop :=
  ∃ v, Blk w d T #[v, .int .i64 (k : Int)] ∧ F d ∧ Own w F 5 v (xs.map bv) ∧ k ≤ xs.length ∧ xs.length ≤ 140737488355328 ∧ ∀ i, F i → i < w.heap.size
def DskTo (T : TypeId) (w : World) (F : Nat → Prop) (d : Nat) (xs : List UInt8) (k : Nat) (w' : World) : Prop :=
  ∃ F', DskAt T w' F' d xs k ∧ (∀ i, F' i → F i ∨ w.heap.size ≤ i) ∧ Fr F w w'
abbrev TDisk : TypeId := 125
abbrev TRDisk : TypeId := 127

section
variable {T : TypeId} {w w' : World} {F G : Nat → Prop} {d : Nat} {xs : List UInt8} {k : Nat}
theorem DskAt.fr (h : DskAt T w F d xs k) (hf : Fr G w w') (hd : ∀ i, F i → ¬ G i) : DskAt T w' F d xs k := by
  obtain ⟨v, h1, h2, h3, h4, h5, h6⟩ := h
  exact ⟨v, h1.fr hf (hd d h2), h2, h3.fr hf hd, h4, h5, fun i hi => Nat.lt_of_lt_of_le (h6 i hi) hf.size⟩
theorem DskAt.frNo (h : DskAt T w F d xs k) (hf : Fr No w w') : DskAt T w' F d xs k := h.fr hf fun _ _ hi => hi
theorem DskAt.lt (h : DskAt T w F d xs k) : ∀ i, F i → i < w.heap.size := by
  obtain ⟨v, h1, h2, h3, h4, h5, h6⟩ := h
  exact h6
theorem DskAt.has (h : DskAt T w F d xs k) : F d := by
  obtain ⟨v, h1, h2, h3, h4, h5, h6⟩ := h
  exact h2
theorem DskAt.dur (h : DskAt T w F d xs k) : k ≤ xs.length := by
  obtain ⟨v, h1, h2, h3, h4, h5, h6⟩ := h
  exact h4
theorem DskAt.open_ (h : DskAt T w F d xs k) :
    ∃ A c, Blk w d T #[.slice A xs.length c, .int .i64 (k : Int)] ∧ F d ∧ Own w F 5 (.slice A xs.length c) (xs.map bv) ∧ k ≤ xs.length ∧ xs.length ≤ 140737488355328 ∧
      w.cell? ⟨d, 0, none⟩ = some (.slice A xs.length c) ∧ w.cell? ⟨d, 1, none⟩ = some (.int .i64 (k : Int)) ∧ w.frozen? ⟨d, 0, none⟩ = false ∧ w.frozen? ⟨d, 1, none⟩ = false ∧ (A = none → xs.length = 0) ∧ xs.length ≤ c := by
  obtain ⟨v, h1, h2, h3, h4, h5, h6⟩ := h
  obtain ⟨A, c, rfl, hn⟩ := h3.form
  rw [List.length_map] at h1 h3 hn
  exact ⟨A, c, h1, h2, h3, h4, h5, h1.cell 0, h1.cell 1, h1.frozen 0, h1.frozen 1, hn, h3.cap.1⟩
theorem dsk_mk {v : Value} (hb : Blk w d T #[v, .int .i64 (k : Int)]) (ho : Own w G 5 v (xs.map bv)) (hk : k ≤ xs.length) (hl : xs.length ≤ 140737488355328) : DskAt T w (fun i => i = d ∨ v.ownBlock = some i) d xs k :=
  ⟨v, hb, .inl rfl, ⟨ho.1, fun g hg => .inr hg⟩, hk, hl, fun i hi => by
    rcases hi with rfl | hi
    · exact hb.lt
    · exact ho.lt i hi⟩
theorem dsk_to {v : Value} (hF : F d) (hb : Blk w' d T #[v, .int .i64 (k : Int)]) (ho : Own w' G 5 v (xs.map bv)) (hG : ∀ i, G i → F i ∨ w.heap.size ≤ i) (hk : k ≤ xs.length) (hl : xs.length ≤ 140737488355328) (hf : Fr F w w') : DskTo T w F d xs k w' := by
  refine ⟨_, dsk_mk hb ho hk hl, fun i hi => ?_, hf⟩
  rcases hi with rfl | hi
  · exact .inl hF
  · exact hG i (ho.2 i hi)
theorem DskTo.weak (h : DskTo T w F d xs k w') (hg : ∀ i, F i → G i) : DskTo T w G d xs k w' := by
  obtain ⟨F', h1, h2, h3⟩ := h
  refine ⟨F', h1, fun i hi => ?_, h3.mono hg⟩
  rcases h2 i hi with h4 | h4
  · exact .inl (hg i h4)
  · exact .inr h4
/-- A store into a disk's own block. -/
theorem dsk_stored {v v' : Value} (i : Nat) (u : Value) (hT : 5 ≠ T) (h1 : Blk w d T #[v, .int .i64 (k : Int)]) (h3 : Own w G 5 v' (xs.map bv)) :
    Blk (w.setCell ⟨d, i, none⟩ u) d T (#[v, .int .i64 (k : Int)].setIfInBounds i u) ∧ Own (w.setCell ⟨d, i, none⟩ u) G 5 v' (xs.map bv) :=
  ⟨h1.set_ i u, h3.fr' (fr_set w ⟨d, i, none⟩ u) (h3.ne_blk h1 hT)⟩
end

/-- A new disk's block laid over a new row. -/
theorem dsk_made {T : TypeId} {w w1 : World} {v : Value} {xs : List UInt8} {k : Nat} (ho : Own w1 (fun i => w.heap.size ≤ i) 5 v (xs.map bv)) (hf : Fr No w w1) (hk : k ≤ xs.length) (hl : xs.length ≤ 140737488355328) :
    ∃ d' F', Ending.returned (.pointer (some ⟨w1.heap.size, 0, none⟩)) = .returned (.pointer (some ⟨d', 0, none⟩)) ∧ DskAt T (w1.alloc (.cells #[v, .int .i64 (k : Int)] T)) F' d' xs k ∧ (∀ i, F' i → w.heap.size ≤ i) ∧ Fr No w (w1.alloc (.cells #[v, .int .i64 (k : Int)] T)) := by
  refine ⟨w1.heap.size, _, rfl, dsk_mk (Blk.new _ _ _) (ho.frNo (fr_alloc _ _)) hk hl, fun i hi => ?_, hf.alloc _⟩
  rcases hi with rfl | hi
  · exact hf.size
  · exact ho.2 i hi

theorem rdisk_new (w : World) :
    Calls Try.prog 72 #[] w fun e w' => e = .returned (.pointer (some ⟨w.heap.size, 0, none⟩)) ∧ DskAt TRDisk w' (fun i => i = w.heap.size) w.heap.size [] 0 ∧ Fr No w w' := by
  go_enter Try.func72, Try.ntmps72
  go_wp2
  go_ret
  refine ⟨rfl, ⟨.slice none 0 0, Blk.new _ _ _, rfl, Own.nil _ _ _, Nat.le_refl _, by simp, ?_⟩, (Fr.refl _ _).alloc _⟩
  intro i hi
  subst hi
  simp

/-- What a cut of the reference's disk leaves: a new row. -/
theorem rdisk_cut {w w2 : World} {F : Nat → Prop} {d : Nat} {v v2 : Value} {k q : Nat} {ys : List UInt8} (hF : F d) (hb : Blk w d TRDisk #[v, .int .i64 (k : Int)]) (ho : Own w2 (fun i => w.heap.size ≤ i) 5 v2 (ys.map bv)) (hf : Fr No w w2) (hq : q ≤ ys.length) (hl : ys.length ≤ 140737488355328) :
    DskTo TRDisk w F d ys q ((w2.setCell ⟨d, 0, none⟩ v2).setCell ⟨d, 1, none⟩ (.int .i64 (q : Int))) := by
  obtain ⟨e1, e3⟩ := dsk_stored 0 v2 (by decide) (hb.fr hf (fun h => h)) ho
  obtain ⟨e4, e5⟩ := dsk_stored 1 (.int .i64 (q : Int)) (by decide) e1 e3
  exact dsk_to hF e4 e5 (fun i hi => .inr hi) hq hl (((hf.mono fun i hi => hi.elim).setCell (.inl hF) _).setCell (.inl hF) _)

theorem crashN_bd (len k : Nat) (keep : Int) (h : k ≤ len) : k ≤ crashN len k keep ∧ crashN len k keep ≤ len := by unfold crashN; omega

end Go.Proofs.Ytokblidfekbeeaa
