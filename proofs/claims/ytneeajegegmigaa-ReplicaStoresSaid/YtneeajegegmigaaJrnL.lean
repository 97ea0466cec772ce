/-
  Journals whose bytes are the records of what they remember: the calls, without the bytes.
-/
import Derived.Test.YtneeajegegmigaaJrnF
import Derived.Test.YtneeajegegmigaaJrnG
namespace Go.Proofs.Ytneeajegegmigaa
open Go.ChangeShapes Go.WideShapes Go.ChangeAt Go.RowKit
set_option linter.unusedVariables false

/-- The journal j remembers s, and its disk has the records of it, in n bytes at most; y: all of it is synced. -/
def JG (y : Bool) (w : World) (F : Nat → Prop) (j : Nat) (s : Js) (n : Nat) : Prop :=
  ∃ d xs k rs, JAt w F j d xs k s ∧ Good xs s rs ∧ s.log.length ≤ 4096 ∧ xs.length ≤ n ∧ (y = true → k = xs.length)
def JGTo (y : Bool) (w : World) (F : Nat → Prop) (j : Nat) (s : Js) (n : Nat) (w' : World) : Prop :=
  ∃ F', JG y w' F' j s n ∧ (∀ i, F' i → F i ∨ w.heap.size ≤ i) ∧ Fr F w w'

section
variable {y : Bool} {w w' w1 : World} {F G : Nat → Prop} {j : Nat} {s s' : Js} {n m : Nat}
theorem JG.fr (h : JG y w F j s n) (hf : Fr G w w') (hd : ∀ i, F i → ¬ G i) : JG y w' F j s n := by
  obtain ⟨d, xs, k, rs, h1, h2⟩ := h
  exact ⟨d, xs, k, rs, h1.fr hf hd, h2⟩
theorem JG.frNo (h : JG y w F j s n) (hf : Fr No w w') : JG y w' F j s n := h.fr hf fun _ _ hi => hi
theorem JG.lt (h : JG y w F j s n) : ∀ i, F i → i < w.heap.size := by
  obtain ⟨d, xs, k, rs, h1, h2⟩ := h
  exact h1.lt
theorem JG.more (h : JG y w F j s n) (hn : n ≤ m) : JG y w F j s m := by
  obtain ⟨d, xs, k, rs, h1, h2, h3, h4, h5⟩ := h
  exact ⟨d, xs, k, rs, h1, h2, h3, Nat.le_trans h4 hn, h5⟩
theorem JG.few (h : JG y w F j s n) : s.log.length ≤ 4096 := by
  obtain ⟨d, xs, k, rs, h1, h2, h3, h4, h5⟩ := h
  exact h3
theorem JG.weak (h : JG y w F j s n) : JG false w F j s n := by
  obtain ⟨d, xs, k, rs, h1, h2, h3, h4, h5⟩ := h
  exact ⟨d, xs, k, rs, h1, h2, h3, h4, fun h => by cases h⟩
theorem JG.self (h : JG y w F j s n) : JGTo y w F j s n w := ⟨F, h, fun _ hi => .inl hi, Fr.refl _ _⟩
theorem JG.still (h : JG y w F j s n) (hf : Fr No w w') : JGTo y w F j s n w' := ⟨F, h.frNo hf, fun _ hi => .inl hi, hf.mono fun _ hi => hi.elim⟩
theorem JGTo.trans {y' : Bool} (h : JGTo y w F j s n w1) (h2 : ∀ F', JG y w1 F' j s n → JGTo y' w1 F' j s' m w') : JGTo y' w F j s' m w' := by
  obtain ⟨F1, h3, h4, h5⟩ := h
  obtain ⟨F2, g3, g4, g5⟩ := h2 F1 h3
  refine ⟨F2, g3, fun i hi => ?_, h5.trans g5 h4⟩
  rcases g4 i hi with h | h
  · exact h4 i h
  · exact .inr (Nat.le_trans h5.size h)
theorem JGTo.own {w0 : World} (h : JGTo y w1 F j s n w') (hf : Fr No w0 w1) (hN : ∀ i, F i → w0.heap.size ≤ i) : ∃ F', JG y w' F' j s n ∧ (∀ i, F' i → w0.heap.size ≤ i) ∧ Fr No w0 w' := by
  obtain ⟨F', g1, g2, g3⟩ := h
  exact ⟨F', g1, fun i hi => (g2 i hi).elim (fun h => hN i h) (fun h => Nat.le_trans hf.size h), hf.transNew g3 hN⟩
theorem JGTo.of {d : Nat} {xs : List UInt8} {k : Nat} {rs : List (List UInt8)} (h : JTo w F j d xs k s w') (hg : Good xs s rs) (hl : s.log.length ≤ 4096) (hn : xs.length ≤ n) (hy : y = true → k = xs.length) : JGTo y w F j s n w' := by
  obtain ⟨F', g1, g2, g3⟩ := h
  exact ⟨F', ⟨d, xs, k, rs, g1, hg, hl, hn, hy⟩, g2, g3⟩

theorem setTermS_log (s : Js) (t v : Int) : (setTermS s t v).log = s.log := by unfold setTermS; split <;> rfl
theorem recT_len {t v : Int} (h : setTermX s t v = 0) : (recT t v).length ≤ 30 := by
  have hb := setX_bd h
  have := intsF_len [1, t, v] (by
    intro x hx
    simp only [List.mem_cons, List.not_mem_nil, or_false] at hx
    rcases hx with rfl | rfl | rfl <;> omega)
  simpa [recT] using this
theorem recE_len {t : Int} {e : En} (he : e.ok) (h : addX s t e = 0) : (recE t e).length ≤ 110 := by
  have hb := addX_bd h
  have l2 := intsF_len [2, t] (by
    intro x hx
    simp only [List.mem_cons, List.not_mem_nil, or_false] at hx
    rcases hx with rfl | rfl <;> omega)
  have l3 := enB_len e he
  unfold recE
  rw [List.length_append]
  simp at l2
  omega
theorem recC_len {c : Int} (hl : s.log.length ≤ 4096) (h : cutX s c = 0) : (recC c).length ≤ 20 := by
  have hb := cutX_bd h
  have l2 := intsF_len [3, c] (by
    intro x hx
    simp only [List.mem_cons, List.not_mem_nil, or_false] at hx
    rcases hx with rfl | rfl <;> omega)
  simpa [recC] using l2
end

section
variable {y : Bool} {w w' w1 : World} {F G : Nat → Prop} {j : Nat} {s : Js} {n : Nat}
theorem g_new (w : World) :
    Calls Try.prog 20 #[] w fun e w' => ∃ j F, e = .returned (.pointer (some ⟨j, 0, none⟩)) ∧ JG true w' F j jsNew 0 ∧ (∀ i, F i → w.heap.size ≤ i) ∧ Fr No w w' := by
  refine (j_new w).mono ?_
  rintro e w' ⟨j, d, F, h1, h2, h3, h4⟩
  exact ⟨j, F, h1, ⟨d, [], 0, [], h2, Good.new, by decide, Nat.le_refl _, fun _ => rfl⟩, h3, h4⟩
theorem g_term (h : JG y w F j s n) : Calls Try.prog 39 #[.pointer (some ⟨j, 0, none⟩)] w fun e w' => e = .returned (.int .i64 s.term) ∧ w = w' := by
  obtain ⟨d, xs, k, rs, h1, h2⟩ := h
  exact j_term h1
theorem g_vote (h : JG y w F j s n) : Calls Try.prog 43 #[.pointer (some ⟨j, 0, none⟩)] w fun e w' => e = .returned (.int .i64 s.vote) ∧ w = w' := by
  obtain ⟨d, xs, k, rs, h1, h2⟩ := h
  exact j_vote h1
theorem g_len (h : JG y w F j s n) : Calls Try.prog 44 #[.pointer (some ⟨j, 0, none⟩)] w fun e w' => e = .returned (.int .i64 (s.log.length : Int)) ∧ w = w' := by
  obtain ⟨d, xs, k, rs, h1, h2⟩ := h
  exact j_len h1
theorem g_at (h : JG y w F j s n) (i : Int) : Calls Try.prog 42 #[.pointer (some ⟨j, 0, none⟩), .int .i64 i] w fun e w' => e = .returned (.tuple #[(atJ s.log i).1.v, .bool (atJ s.log i).2]) ∧ Fr No w w' := by
  obtain ⟨d, xs, k, rs, h1, h2⟩ := h
  exact j_at h1 i
theorem g_termAt (h : JG y w F j s n) (i : Int) : Calls Try.prog 50 #[.pointer (some ⟨j, 0, none⟩), .int .i64 i] w fun e w' => e = .returned (.int .i64 (termAt s.log i)) ∧ Fr No w w' := by
  obtain ⟨d, xs, k, rs, h1, h2⟩ := h
  exact j_termAt h1 i
theorem g_SetTerm (h : JG y w F j s n) (t v : Int) (hsz : n + 200 ≤ 140737488355328) :
    Calls Try.prog 49 #[.pointer (some ⟨j, 0, none⟩), .int .i64 t, .int .i64 v] w fun e w' => e = .returned (.int .i64 (setTermX s t v)) ∧ JGTo false w F j (setTermS s t v) (n + 48) w' := by
  obtain ⟨d, xs, k, rs, h1, h2, h3, h4, h5⟩ := h
  refine (j_SetTerm h1 t v (by omega)).mono ?_
  rintro e w' ⟨rfl, j2⟩
  refine ⟨rfl, ?_⟩
  by_cases h0 : setTermX s t v = 0
  · rw [if_pos h0] at j2
    have hr := recT_len h0
    have hp := putN_lenP 8 (recT t v) (by omega)
    exact JGTo.of j2 (h2.snoc (recT t v) (by omega) (replay_term s t v h0)) (by rw [setTermS_log]; exact h3) (by rw [List.length_append]; omega) (fun h => by cases h)
  · rw [if_neg h0, setTermS_no h0] at j2
    rw [setTermS_no h0]
    exact JGTo.of j2 h2 h3 (by omega) (fun h => by cases h)
theorem g_Append (h : JG y w F j s n) (t : Int) (e : En) (he : e.ok) (hsz : n + 200 ≤ 140737488355328) :
    Calls Try.prog 45 #[.pointer (some ⟨j, 0, none⟩), .int .i64 t, e.v] w fun r w' => r = .returned (.int .i64 (addX s t e)) ∧ JGTo false w F j (addS s t e) (n + 128) w' := by
  obtain ⟨d, xs, k, rs, h1, h2, h3, h4, h5⟩ := h
  refine (j_Append h1 h3 t e he (by omega)).mono ?_
  rintro r w' ⟨rfl, j2⟩
  refine ⟨rfl, ?_⟩
  by_cases h0 : addX s t e = 0
  · rw [if_pos h0] at j2
    have hr := recE_len he h0
    have hp := putN_lenP 8 (recE t e) (by omega)
    have hb := addX_bd h0
    exact JGTo.of j2 (h2.snoc (recE t e) (by omega) (replay_entry s t e he h0)) (by unfold addS; rw [if_pos h0]; simp only [List.length_append, List.length_singleton]; omega) (by rw [List.length_append]; omega) (fun h => by cases h)
  · rw [if_neg h0, addS_no h0] at j2
    rw [addS_no h0]
    exact JGTo.of j2 h2 h3 (by omega) (fun h => by cases h)
theorem g_Cut (h : JG y w F j s n) (c : Int) (hsz : n + 200 ≤ 140737488355328) :
    Calls Try.prog 61 #[.pointer (some ⟨j, 0, none⟩), .int .i64 c] w fun r w' => r = .returned (.int .i64 (cutX s c)) ∧ JGTo false w F j (cutS s c) (n + 38) w' := by
  obtain ⟨d, xs, k, rs, h1, h2, h3, h4, h5⟩ := h
  refine (j_Cut h1 c h3 (by omega)).mono ?_
  rintro r w' ⟨rfl, j2⟩
  refine ⟨rfl, ?_⟩
  by_cases h0 : cutX s c = 0
  · rw [if_pos h0] at j2
    have hr := recC_len h3 h0
    have hp := putN_lenP 8 (recC c) (by omega)
    exact JGTo.of j2 (h2.snoc (recC c) (by omega) (replay_cut s c h3 h0)) (by unfold cutS; rw [if_pos h0]; simp only [List.length_take]; omega) (by rw [List.length_append]; omega) (fun h => by cases h)
  · rw [if_neg h0, cutS_no h0] at j2
    rw [cutS_no h0]
    exact JGTo.of j2 h2 h3 (by omega) (fun h => by cases h)
theorem g_sync (h : JG y w F j s n) :
    Calls Try.prog 46 #[.pointer (some ⟨j, 0, none⟩)] w fun e w' => e = .returned (.tuple #[]) ∧ JGTo true w F j s n w' := by
  obtain ⟨d, xs, k, rs, h1, h2, h3, h4, h5⟩ := h
  refine (j_sync h1).mono ?_
  rintro r w' ⟨rfl, j2⟩
  exact ⟨rfl, JGTo.of j2 h2 h3 h4 (fun _ => rfl)⟩
end
end Go.Proofs.Ytneeajegegmigaa
