/-
  Journals that were grown by notes: the plain law.
-/
import Derived.Test.YtoiiblopnchljaaJrnG
namespace Go.Proofs.Ytoiiblopnchljaa

/-- The entries of notes, the records, the bytes. -/
def gl (q : List Int) : List Lg := q.map fun x => ⟨1, noteE (x % 1000)⟩
def grecs (q : List Int) : List (List UInt8) := recT 1 0 :: q.map fun x => recE 1 (noteE (x % 1000))
def gxs (q : List Int) : List UInt8 := frames 8 (grecs q)
abbrev gst (q : List Int) : Js := ⟨1, 0, gl q⟩

theorem snoc_ind {P : List Int → Prop} (h0 : P []) (h1 : ∀ p x, P p → P (p ++ [x])) : ∀ q, P q := by
  have key : ∀ r : List Int, P r.reverse := by
    intro r
    induction r with
    | nil => exact h0
    | cons x r ih => rw [List.reverse_cons]; exact h1 _ x ih
  intro q
  have := key q.reverse
  rwa [List.reverse_reverse] at this
theorem gl_len (q : List Int) : (gl q).length = q.length := by simp [gl]
theorem gl_snoc (q : List Int) (x : Int) : gl (q ++ [x]) = gl q ++ [⟨1, noteE (x % 1000)⟩] := by simp [gl]
theorem grecs_snoc (q : List Int) (x : Int) : grecs (q ++ [x]) = grecs q ++ [recE 1 (noteE (x % 1000))] := by simp [grecs]
theorem gxs_snoc (q : List Int) (x : Int) : gxs (q ++ [x]) = gxs q ++ putN 8 (recE 1 (noteE (x % 1000))) := by
  unfold gxs
  rw [grecs_snoc, frames_append]
  simp [frames]
theorem gl_termAt (q : List Int) (i : Int) : termAt (gl q) i ≤ 1 := by
  unfold termAt
  split
  · unfold gl
    rw [List.getElem?_map]
    cases q[i.toNat]? <;> simp
  · omega
theorem note_bd (x : Int) : 0 ≤ x % 1000 ∧ x % 1000 < 1000 := ⟨Int.emod_nonneg x (by decide), Int.emod_lt_of_pos x (by decide)⟩
theorem add_note (q : List Int) (x : Int) (h : q.length < 4096) : addX (gst q) 1 (noteE (x % 1000)) = 0 ∧ addS (gst q) 1 (noteE (x % 1000)) = gst (q ++ [x]) := by
  have hb := note_bd x
  have hx : addX (gst q) 1 (noteE (x % 1000)) = 0 := by
    unfold addX
    rw [noteE_shape _ hb.1 hb.2, if_neg (by simp), if_neg, if_neg]
    · rw [gl_len]; omega
    · have := gl_termAt q (((gst q).log.length : Int) - 1)
      simp only at this ⊢
      omega
  refine ⟨hx, ?_⟩
  unfold addS
  rw [if_pos hx]
  show (⟨1, 0, gl q ++ [⟨1, noteE (x % 1000)⟩]⟩ : Js) = ⟨1, 0, gl (q ++ [x])⟩
  rw [gl_snoc]
theorem recT10_len : (recT 1 0).length ≤ 30 := by
  have hq1 : ∀ x ∈ [(1 : Int), 1, 0], -9223372036854775808 ≤ x ∧ x ≤ 9223372036854775807 := by decide
  have l1 := intsF_len _ hq1
  unfold recT
  simpa using l1
theorem recN_len (x : Int) : (recE 1 (noteE (x % 1000))).length ≤ 110 := by
  have hb := note_bd x
  have hq2 : ∀ x ∈ [(2 : Int), 1], -9223372036854775808 ≤ x ∧ x ≤ 9223372036854775807 := by decide
  have l2 := intsF_len _ hq2
  have l3 := enB_len (noteE (x % 1000)) (noteE_ok _ hb.1 hb.2)
  unfold recE
  rw [List.length_append]
  simp at l2
  omega

theorem grown_good (q : List Int) (hq : q.length ≤ 4096) : Good (gxs q) (gst q) (grecs q) := by
  have key : ∀ (p : List Int), p.length ≤ 4096 → Good (gxs p) (gst p) (grecs p) := by
    refine snoc_ind ?_ ?_
    · intro _
      have x1 : setTermX jsNew 1 0 = 0 := by decide
      have y1 : setTermS jsNew 1 0 = ⟨1, 0, []⟩ := by unfold setTermS; rw [if_pos x1]
      have := Good.snoc Good.new (recT 1 0) (by have := recT10_len; omega) (s' := ⟨1, 0, []⟩) (by rw [replay_term _ _ _ x1, y1])
      rw [List.nil_append, List.nil_append] at this
      have e1 : gxs [] = putN 8 (recT 1 0) := by simp [gxs, grecs, frames]
      rw [e1]
      exact this
    · intro p x ih h
      rw [List.length_append, List.length_singleton] at h
      have hb := note_bd x
      obtain ⟨x1, y1⟩ := add_note p x (by omega)
      have := Good.snoc (ih (by omega)) (recE 1 (noteE (x % 1000))) (by have := recN_len x; omega) (s' := gst (p ++ [x])) (by rw [replay_entry _ _ _ (noteE_ok _ hb.1 hb.2) x1, y1])
      rw [gxs_snoc, grecs_snoc]
      exact this
  exact key q hq
theorem gxs_len (q : List Int) : (gxs q).length ≤ 48 + 128 * q.length := by
  revert q
  refine snoc_ind ?_ ?_
  · have h1 := recT10_len
    have := putN_lenP 8 (recT 1 0) (by omega)
    simp [gxs, grecs, frames]
    omega
  · intro p x ih
    have h1 := recN_len x
    have := putN_lenP 8 (recE 1 (noteE (x % 1000))) (by omega)
    rw [gxs_snoc, List.length_append, List.length_append, List.length_singleton]
    omega
theorem foldJ_prefix {s s' : Js} {rs : List (List UInt8)} (h : foldJ s rs = some s') (i : Nat) : ∃ t, foldJ s (rs.take i) = some t := by
  rw [← List.take_append_drop i rs, foldJ_append] at h
  cases hq : foldJ s (rs.take i) with
  | none => rw [hq] at h; cases h
  | some t => exact ⟨t, rfl⟩
theorem grecs_take (q : List Int) (i : Nat) : (grecs q).take (i + 1) = grecs (q.take i) := by
  unfold grecs
  rw [List.take_succ_cons, List.map_take]
/-- What a crash leaves of a journal that was grown: a beginning of its entries, with all that were synced. -/
theorem grown_crash (q : List Int) (hq : q.length ≤ 4096) (m n : Nat) (hn : n ≤ q.length) (hm1 : (gxs (q.take n)).length ≤ m) (hm2 : m ≤ (gxs q).length) :
    ∃ i, n ≤ i ∧ i ≤ q.length ∧ playJ ((gxs q).take m) = ((gxs (q.take i)).length, gst (q.take i)) := by
  obtain ⟨i, s', h1, h2, h3, h4, h5, h6⟩ := (grown_good q hq).crash m hm2
  have hl : (grecs q).length = q.length + 1 := by simp [grecs]
  have h7 := h6 (n + 1) (by omega) (by rw [grecs_take]; exact hm1)
  obtain ⟨i', rfl⟩ : ∃ i', i = i' + 1 := ⟨i - 1, by omega⟩
  rw [grecs_take] at h2 h3
  have h8 := (grown_good (q.take i') (by rw [List.length_take]; omega)).makes
  rw [h2] at h8
  injection h8 with h8
  exact ⟨i', by omega, by omega, by rw [h3, h8]; rfl⟩
end Go.Proofs.Ytoiiblopnchljaa
