/-
  The contracts of note and awake of the journal's statements.
-/
import Derived.Test.YtoiiblopnchljaaJrnF
import Derived.Test.YtoiiblopnchljaaMake
namespace Go.Proofs.Ytoiiblopnchljaa
open Go.ChangeShapes Go.WideShapes Go.ChangeAt Go.RowKit
set_option linter.unusedVariables false

/-- A note with a number. -/
def noteE (m : Int) : En := ⟨16, 0, -1, -1, -1, 0, 0, 0, m⟩
theorem noteE_ok (m : Int) (h : 0 ≤ m) (h2 : m < 1000) : (noteE m).ok := by
  intro x hx
  simp only [noteE, En.l, List.mem_cons, List.not_mem_nil, or_false] at hx
  rcases hx with rfl | rfl | rfl | rfl | rfl | rfl | rfl | rfl | rfl <;> omega
theorem noteE_shape (m : Int) (h : 0 ≤ m) (h2 : m < 1000) : shapeB (noteE m) = true := by
  unfold shapeB fitsB noteE formN inB Sp.has inB
  simp
  omega

theorem note_any (n : Int) (w : World) :
    Calls Try.prog 22 #[.int .i64 n] w fun e w' => e = .returned (noteE (n % 1000)).v ∧ Fr No w w' := by
  have hm := fun W => mod_any n 1000 W (by decide) (by decide)
  unfold noteE En.v
  revert hm
  generalize n % 1000 = m
  intro hm
  have HM := Lib.hid hm
  clear hm
  go_enter Try.func22, Try.ntmps22
  go_wp2_with fail
  refine (HM.out _).mono ?_
  rintro e w1 ⟨rfl, rfl⟩
  go_wp2_with fail
  refine bodyPost_ret (v := .agg _) (by simp [results, Try.results22, go_sem]) rfl ⟨rfl, ?_⟩
  exact fr_alloc _ _

/-- A journal of the call's own has turned. -/
theorem JTo.own {w0 w1 w2 : World} {F : Nat → Prop} {j d : Nat} {xs : List UInt8} {k : Nat} {s : Js} (h : JTo w1 F j d xs k s w2) (hf : Fr No w0 w1) (hN : ∀ i, F i → w0.heap.size ≤ i) : ∃ F', JAt w2 F' j d xs k s ∧ (∀ i, F' i → w0.heap.size ≤ i) ∧ Fr No w0 w2 := by
  obtain ⟨F', g1, g2, g3⟩ := h
  exact ⟨F', g1, fun i hi => (g2 i hi).elim (fun h => hN i h) (fun h => Nat.le_trans hf.size h), hf.transNew g3 hN⟩
theorem crashN_zero (len k : Nat) (h : k ≤ len) : crashN len k 0 = k := by unfold crashN; omega

set_option maxRecDepth 100000 in
set_option maxHeartbeats 4000000 in
theorem awake8_any (w : World) :
    Calls Try.prog 12 #[] w fun e w' => e = .returned (.bool true) ∧ Fr No w w' := by
  have x1 : setTermX jsNew 3 1 = 0 := by decide
  have y1 : setTermS jsNew 3 1 = ⟨3, 1, []⟩ := by unfold setTermS; rw [if_pos x1]
  have sh : shapeB (noteE 7) = true := by decide
  have x2 : addX ⟨3, 1, []⟩ 3 (noteE 7) = 0 := by unfold addX; rw [sh]; decide
  have y2 : addS ⟨3, 1, []⟩ 3 (noteE 7) = ⟨3, 1, [⟨3, noteE 7⟩]⟩ := by unfold addS; rw [if_pos x2]; rfl
  have x3 : setTermX ⟨3, 1, [⟨3, noteE 7⟩]⟩ 3 2 = 20 := by unfold setTermX; decide
  have y3 : setTermS ⟨3, 1, [⟨3, noteE 7⟩]⟩ 3 2 = ⟨3, 1, [⟨3, noteE 7⟩]⟩ := setTermS_no (by rw [x3]; decide)
  have hq1 : ∀ x ∈ [(1 : Int), 3, 1], -9223372036854775808 ≤ x ∧ x ≤ 9223372036854775807 := by decide
  have l1 := intsF_len _ hq1
  have p1 := putN_lenP 8 (recT 3 1) (by unfold recT; simp at l1; omega)
  have hq2 : ∀ x ∈ [(2 : Int), 3], -9223372036854775808 ≤ x ∧ x ≤ 9223372036854775807 := by decide
  have l2 := intsF_len _ hq2
  have l3 := enB_len (noteE 7) (noteE_ok 7 (by decide) (by decide))
  have p2 := putN_lenP 8 (recE 3 (noteE 7)) (by unfold recE; rw [List.length_append]; simp at l2; omega)
  have g1 : Good ([] ++ putN 8 (recT 3 1)) ⟨3, 1, []⟩ ([] ++ [recT 3 1]) := Good.snoc Good.new (recT 3 1) (by unfold recT; simp at l1; omega) (by rw [replay_term _ _ _ x1, y1])
  have hplay := g1.play
  rw [List.nil_append] at hplay
  have hr1 : (recT 3 1).length ≤ 30 := by unfold recT; simpa using l1
  have hr2 : (recE 3 (noteE 7)).length ≤ 110 := by unfold recE; rw [List.length_append]; simp at l2; omega
  clear sh hq1 hq2 l1 l2 l3 g1
  generalize hP1 : putN 8 (recT 3 1) = P1 at *
  generalize hP2 : putN 8 (recE 3 (noteE 7)) = P2 at *
  have HP1 := Lib.hid hP1
  have HP2 := Lib.hid hP2
  clear hP1 hP2
  have X1 := Lib.hid x1
  have Y1 := Lib.hid y1
  have X2 := Lib.hid x2
  have Y2 := Lib.hid y2
  have X3 := Lib.hid x3
  have Y3 := Lib.hid y3
  have HPLAY := Lib.hid hplay
  clear x1 y1 x2 y2 x3 y3 hplay
  go_enter Try.func12, Try.ntmps12
  go_wp2_with fail
  refine (j_new _).mono ?_
  rintro e w1 ⟨j, d, F, rfl, a1, n1, f1⟩
  have A1 := Lib.hid a1
  have N1 := Lib.hid n1
  have F1 := Lib.hid f1
  clear a1 n1 f1
  go_wp2_with fail
  refine (j_SetTerm A1.out 3 1 (by simp)).mono ?_
  rintro e w2 ⟨rfl, j2⟩
  rw [X1.out, if_pos rfl, Y1.out, HP1.out, List.nil_append] at j2
  obtain ⟨F2, a2, n2, f2⟩ := j2.own F1.out N1.out
  rw [X1.out]
  clear j2 A1 N1 F1
  have A2 := Lib.hid a2
  have N2 := Lib.hid n2
  have F2 := Lib.hid f2
  clear a2 n2 f2
  go_wp2_with fail
  refine (j_sync A2.out).mono ?_
  rintro e w3 ⟨rfl, j3⟩
  obtain ⟨F3, a3, n3, f3⟩ := j3.own F2.out N2.out
  clear j3 A2 N2 F2
  have A3 := Lib.hid a3
  have N3 := Lib.hid n3
  have F3 := Lib.hid f3
  clear a3 n3 f3
  go_wp2_with fail
  refine (note_any 7 _).mono ?_
  rintro e w4 ⟨rfl, f4⟩
  have F4 := Lib.hid (F3.out.transNo f4)
  have A4 := Lib.hid (A3.out.frNo f4)
  clear f4 A3 F3
  go_wp2_with fail
  refine (j_Append A4.out (by simp) 3 (noteE 7) (noteE_ok 7 (by decide) (by decide)) (by simp; omega)).mono ?_
  rintro e w5 ⟨rfl, j5⟩
  rw [X2.out, if_pos rfl, Y2.out, HP2.out] at j5
  obtain ⟨F5, a5, n5, f5⟩ := j5.own F4.out N3.out
  rw [X2.out]
  clear j5 A4 N3 F4
  have A5 := Lib.hid a5
  have N5 := Lib.hid n5
  have F5 := Lib.hid f5
  clear a5 n5 f5
  go_wp2_with fail
  refine (j_SetTerm A5.out 3 2 (by simp; omega)).mono ?_
  rintro e w6 ⟨rfl, j6⟩
  rw [X3.out, if_neg (by decide), Y3.out] at j6
  obtain ⟨F6, a6, n6, f6⟩ := j6.own F5.out N5.out
  rw [X3.out]
  clear j6 A5 N5 F5
  have A6 := Lib.hid a6
  have N6 := Lib.hid n6
  have F6 := Lib.hid f6
  clear a6 n6 f6
  go_wp2_with fail
  refine (j_len A6.out).mono ?_
  rintro e w7 ⟨rfl, rfl⟩
  simp only [List.length_cons, List.length_nil]
  go_wp2_with fail
  refine (j_crash A6.out 0).mono ?_
  rintro e w8 ⟨rfl, j8⟩
  rw [crashN_zero _ _ (by simp), List.take_left' rfl, HPLAY.out] at j8
  simp only at j8
  obtain ⟨F8, a8, n8, f8⟩ := j8.own F6.out N6.out
  clear j8 A6 N6 F6
  have A8 := Lib.hid a8
  have N8 := Lib.hid n8
  have F8 := Lib.hid f8
  clear a8 n8 f8
  go_wp2_with fail
  refine (j_term A8.out).mono ?_
  rintro e w9 ⟨rfl, rfl⟩
  go_wp2_with fail
  refine (j_vote A8.out).mono ?_
  rintro e w9 ⟨rfl, rfl⟩
  go_wp2_with fail
  refine (j_len A8.out).mono ?_
  rintro e w9 ⟨rfl, rfl⟩
  simp only [List.length_nil]
  go_wp2_with fail
  go_ret
  exact ⟨ret_bool rfl, F8.out⟩
end Go.Proofs.Ytoiiblopnchljaa
