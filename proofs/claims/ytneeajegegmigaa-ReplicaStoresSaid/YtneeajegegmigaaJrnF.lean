/-
  The contract of Crash of the journal.
-/
import Derived.Test.YtneeajegegmigaaJrnE
namespace Go.Proofs.Ytneeajegegmigaa
open Go.ChangeShapes Go.WideShapes Go.ChangeAt Go.RowKit
set_option linter.unusedVariables false

theorem replayJ_len {s s' : Js} {r : List UInt8} (h : replayJ s r = some s') (hl : s.log.length ≤ 4096) : s'.log.length ≤ 4096 := by
  unfold replayJ at h
  split at h
  · cases h
  · split at h
    · cases h
    · unfold replayB at h
      split at h
      · split at h
        · cases h
        · split at h
          · rename_i hc
            injection h with h
            subst h
            unfold setTermS
            rw [if_pos hc.2]
            exact hl
          · cases h
      · split at h
        · split at h
          · rename_i hc
            injection h with h
            subst h
            have := addX_bd hc.2.2
            unfold addS
            rw [if_pos hc.2.2]
            simp
            omega
          · cases h
        · split at h
          · split at h
            · rename_i hc
              injection h with h
              subst h
              unfold cutS
              rw [if_pos hc.2]
              simp
              omega
            · cases h
          · cases h

/-- Term, vote and log are forgotten. -/
theorem JAt.forget {w : World} {F : Nat → Prop} {j d : Nat} {xs : List UInt8} {k : Nat} {s : Js} (h : JAt w F j d xs k s) :
    JTo w F j d xs k jsNew (((w.setCell ⟨j, 1, none⟩ (.int .i64 0)).setCell ⟨j, 2, none⟩ (.int .i64 (-1))).setCell ⟨j, 3, none⟩ (.slice none 0 0)) := by
  obtain ⟨v, Fd, h1, h2, h3, h4, h5, h6, h7, h8⟩ := h
  obtain ⟨F', g1, g2, g3⟩ := JAt.setTV 0 (-1) h1 h2 h3 h4 h5 h6 h7 h8
  obtain ⟨v', Fd', k1, k2, k3, k4, k5, k6, k7, k8⟩ := g1
  have := JAt.setLog (l := []) (v' := .slice none 0 0) k1 k2 (OwnN.nil _ _ _ _) k4 k5 k6 (fun g hg => by cases hg) k8
  obtain ⟨F2, m1, m2, m3⟩ := this
  exact ⟨F2, m1, fun i hi => (m2 i hi).elim (fun h => g2 i h) (fun h => .inr (Nat.le_trans g3.size h)), g3.trans m3 g2⟩

/-- Two steps of a journal. -/
theorem JTo.then {w w1 w' : World} {F F1 : Nat → Prop} {j d : Nat} {ys : List UInt8} {m : Nat} {s' : Js} (hf : Fr F w w1) (hi : ∀ i, F1 i → F i ∨ w.heap.size ≤ i) (h : JTo w1 F1 j d ys m s' w') : JTo w F j d ys m s' w' := by
  obtain ⟨F2, g3, g4, g5⟩ := h
  exact ⟨F2, g3, fun i h => (g4 i h).elim (fun h => hi i h) (fun h => .inr (Nat.le_trans hf.size h)), hf.trans g5 hi⟩

theorem JAt.ptr {w : World} {F : Nat → Prop} {j d : Nat} {xs : List UInt8} {k : Nat} {s : Js} (h : JAt w F j d xs k s) : w.cell? ⟨j, 0, none⟩ = some (.pointer (some ⟨d, 0, none⟩)) := by
  obtain ⟨v, Fd, h1, _⟩ := h
  exact h1.cell 0

end Go.Proofs.Ytneeajegegmigaa
