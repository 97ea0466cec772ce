/-
  The walk of JournalVotes.
-/
import Derived.Test.YtoiiblopnchljaaJrnL
import Derived.Test.YtoiiblopnchljaaActs
import Derived.Deep.RegionHeld3
namespace Go.Proofs.Ytoiiblopnchljaa
open Go.ChangeShapes Go.WideShapes Go.ChangeAt Go.RowKit
set_option linter.unusedVariables false

theorem between_in (v low high : Int) (w : World) (h1 : low ≤ high) (h2 : -1152921504606846976 ≤ low) (h3 : high ≤ 1152921504606846976) :
    Calls Try.prog 19 #[.int .i64 v, .int .i64 low, .int .i64 high] w fun e w' => ∃ x, e = .returned (.int .i64 x) ∧ low ≤ x ∧ x ≤ high ∧ w = w' := by
  refine (between_any v low high w h1 h2 h3).mono ?_
  rintro e w' ⟨rfl, rfl⟩
  have b1 := Int.emod_nonneg v (b := high - low + 1) (by omega)
  have b2 := Int.emod_lt_of_pos v (b := high - low + 1) (by omega)
  exact ⟨_, rfl, by omega, by omega, rfl⟩

/-- What SetTerm does to the term and the vote. -/
structure VoteStep (s s' : Js) (X t : Int) : Prop where
  log : s'.log = s.log
  up : s.term ≤ s'.term
  one : s'.term = s.term → s.vote ≠ -1 → s'.vote = s.vote
  no : X ≠ 0 → s' = s
  most : s'.term ≤ s.term ∨ s'.term ≤ t
theorem voteStep (s : Js) (t v : Int) : VoteStep s (setTermS s t v) (setTermX s t v) t := by
  by_cases h : setTermX s t v = 0
  · have h2 := h
    unfold setTermX at h2
    split at h2
    · cases h2
    · split at h2
      · cases h2
      · rename_i h3 h4
        refine ⟨setTermS_log s t v, ?_, ?_, fun hh => absurd h hh, ?_⟩
        · unfold setTermS; rw [if_pos h]; simp only; omega
        · unfold setTermS
          rw [if_pos h]
          simp only
          intro h5 h6
          apply Classical.byContradiction
          intro h7
          exact h4 (.inr ⟨h5, h6, fun h8 => h7 h8.symm⟩)
        · unfold setTermS; rw [if_pos h]; simp only; omega
  · rw [setTermS_no h]
    exact ⟨rfl, Int.le_refl _, fun _ _ => rfl, fun _ => rfl, .inl (Int.le_refl _)⟩
theorem g_SetTermV {y : Bool} {w : World} {F : Nat → Prop} {j : Nat} {s : Js} {n : Nat} (h : JG y w F j s n) (t v : Int) (hsz : n + 200 ≤ 140737488355328) :
    Calls Try.prog 18 #[.pointer (some ⟨j, 0, none⟩), .int .i64 t, .int .i64 v] w fun e w' => ∃ s' X, e = .returned (.int .i64 X) ∧ VoteStep s s' X t ∧ JGTo false w F j s' (n + 48) w' := by
  refine (g_SetTerm h t v hsz).mono ?_
  rintro e w' ⟨rfl, h2⟩
  exact ⟨_, _, rfl, voteStep s t v, h2⟩

set_option maxRecDepth 100000 in
set_option maxHeartbeats 8000000 in
theorem JournalVotes_walk (v0 : Value) (w : World) (w0 : In_acts w v0) :
    Calls Try.prog 4 #[v0] w fun e w' => e = .returned (.bool true) ∧ Below w.heap.size w w' := by
  obtain ⟨A, len, cap, acts, rfl, hacts⟩ := w0
  have hM := hacts.most
  unfold maxLen at hM
  have HACTS := Lib.hid hacts
  clear hacts
  go_enter Try.func4, Try.ntmps4
  go_wp2_with fail
  refine (g_new _).mono ?_
  rintro e w1 ⟨j, F, rfl, a1, n1, f1⟩
  have A1 := Lib.hid a1
  have N1 := Lib.hid n1
  have F1 := Lib.hid f1
  clear a1 n1 f1
  go_wp2_with fail
  refine (awake8_any _).mono ?_
  rintro e w2 ⟨rfl, f2⟩
  have A2 := Lib.hid (A1.out.frNo f2)
  have F2 := Lib.hid (F1.out.transNo f2)
  clear f2 A1 F1
  by_cases h50 : len ≤ 50
  case neg =>
    have b1 : decide ((50 : Int) < (len : Int)) = true := by simp; omega
    go_wp2_with fail
    refine (awake8_any _).mono ?_
    rintro e w3 ⟨rfl, f3⟩
    go_wp2_with fail
    go_ret
    exact ⟨ret_bool rfl, (F2.out.transNo f3).belowNo⟩
  have b1 : decide ((50 : Int) < (len : Int)) = false := by simp; omega
  go_wp2_with fail
  go_loopw [4] (fun o wr => ∃ (m : Nat) (F : Nat → Prop) (s : Js), m ≤ len ∧ o = .int .i64 m ∧ JG true wr F j s (48 * m) ∧ (∀ i, F i → w.heap.size ≤ i) ∧ Fr No w wr ∧ 0 ≤ s.term ∧ s.term ≤ m) (fun o _ => len - (intOf o).toNat)
  case atStart => exact ⟨0, F, jsNew, Nat.zero_le _, rfl, A2.out, N1.out, F2.out, by decide, by decide⟩
  case round =>
    clear A2 F2 N1
    obtain ⟨m, G, s, hm, rfl, hj, hn, F0, ht0, ht1⟩ := hrel
    by_cases hlt : m < len
    case neg =>
      have b2 : decide ((m : Int) < (len : Int)) = false := by simp; omega
      have HJ := Lib.hid hj
      have HN := Lib.hid hn
      clear hj hn
      go_wp2_with fail
      go_ret
      exact ⟨rfl, F0.belowNo⟩
    have b2 : decide ((m : Int) < (len : Int)) = true := by simp; omega
    obtain ⟨b, off, a, rfl, ha, hok, hcells⟩ := HACTS.out.at2 hlt
    have hi0 : (0 : Int) ≤ (m : Int) := by omega
    have hi1 : (m : Int) < (len : Int) := by omega
    clear ha hok
    have hw1 : IntKind.i64.wrap (s.term - 1) = s.term - 1 := IntWalk.i64_in _ (by omega)
    have hw2 : IntKind.i64.wrap (s.term + 1) = s.term + 1 := IntWalk.i64_in _ (by omega)
    have HJ := Lib.hid hj
    have HN := Lib.hid hn
    have HCELLS := Lib.hid hcells
    clear hj hn hcells
    go_wp2_with fail
    refine (g_term HJ.out).mono ?_
    rintro e w3 ⟨rfl, rfl⟩
    go_wp2_with fail
    refine (g_vote HJ.out).mono ?_
    rintro e w3 ⟨rfl, rfl⟩
    go_wp2_with fail
    go_region_held3 (fun V => V.cell? ⟨b, off + m * 3, none⟩ = some (.int .i64 a.which) ∧ V.cell? ⟨b, off + m * 3 + 1, none⟩ = some (.int .i64 a.a) ∧ V.cell? ⟨b, off + m * 3 + 2, none⟩ = some (.int .i64 a.b)) (exact HCELLS.out _ (by repeat (first | assumption | exact Fr.refl _ _ | refine Fr.alloc ?_ _ | refine Fr.drew ?_ | refine Fr.drewN ?_ _))) (first
      | (go_at_call 19; refine (between_in _ _ _ _ (by omega) (by omega) (by omega)).mono ?_; rintro e w' ⟨x, rfl, -, hx2, rfl⟩; have HX2 := Lib.hid hx2; clear hx2)
      | (go_at_call 18; refine (g_SetTermV (HJ.out.frNo (by repeat (first | assumption | exact Fr.refl _ _ | refine Fr.alloc ?_ _ | refine Fr.drew ?_ | refine Fr.drewN ?_ _))) _ _ (by omega)).mono ?_; rintro e w5 ⟨s', X, rfl, hv, j5⟩; obtain ⟨F5, a5, n5, f5⟩ := j5.own (w0 := w) (by repeat (first | assumption | exact Fr.refl _ _ | refine Fr.alloc ?_ _ | refine Fr.drew ?_ | refine Fr.drewN ?_ _)) HN.out; have A5 := Lib.hid a5; have N5 := Lib.hid n5; clear j5 a5 n5))
    all_goals
      have hup := hv.up
      have hmost := hv.most
      have hx2 := (by assumption : Hid (_ ≤ s.term + 1)).out
      replace hmost : s'.term ≤ s.term + 1 := by omega
      clear hx2
      have hone := hv.one
      have hno := hv.no
      clear hv HJ HN
      go_upto_region 9 with fail
      go_cut [88] (fun x wx => x = .bool false ∧ wx = w5)
      case first =>
        have c1 : decide (s'.term < s.term) = false := by simp; omega
        by_cases hX : X = 0
        · have c5 : (X != 0) = false := by simp [hX]
          by_cases h1 : s'.term = s.term
          · have c2 : (s'.term == s.term) = true := by simp [h1]
            by_cases h2 : s.vote = -1
            · have c3 : (s.vote != -1) = false := by simp [h2]
              clear hup hmost hone hno hX h1 h2
              go_wp2_with (first | (go_at_call 13; refine (g_term A5.out).mono ?_; rintro e w' ⟨rfl, rfl⟩) | (go_at_call 14; refine (g_vote A5.out).mono ?_; rintro e w' ⟨rfl, rfl⟩))
              go_meet
              exact ⟨rfl, rfl⟩
            · have c3 : (s.vote != -1) = true := by simp [h2]
              have c4 : (s'.vote != s.vote) = false := by simp [hone h1 h2]
              clear hup hmost hone hno hX h1 h2
              go_wp2_with (first | (go_at_call 13; refine (g_term A5.out).mono ?_; rintro e w' ⟨rfl, rfl⟩) | (go_at_call 14; refine (g_vote A5.out).mono ?_; rintro e w' ⟨rfl, rfl⟩))
              go_meet
              exact ⟨rfl, rfl⟩
          · have c2 : (s'.term == s.term) = false := by simp [h1]
            clear hup hmost hone hno hX h1
            go_wp2_with (first | (go_at_call 13; refine (g_term A5.out).mono ?_; rintro e w' ⟨rfl, rfl⟩) | (go_at_call 14; refine (g_vote A5.out).mono ?_; rintro e w' ⟨rfl, rfl⟩))
            go_meet
            exact ⟨rfl, rfl⟩
        · have c5 : (X != 0) = true := by simp [hX]
          have c2 : (s'.term == s.term) = true := by simp [hno hX]
          have c4 : (s'.vote != s.vote) = false := by simp [hno hX]
          have c6 : (s'.term != s.term) = false := by simp [hno hX]
          by_cases h2 : s.vote = -1
          · have c3 : (s.vote != -1) = false := by simp [h2]
            clear hup hmost hone hno hX h2
            go_wp2_with (first | (go_at_call 13; refine (g_term A5.out).mono ?_; rintro e w' ⟨rfl, rfl⟩) | (go_at_call 14; refine (g_vote A5.out).mono ?_; rintro e w' ⟨rfl, rfl⟩))
            go_meet
            exact ⟨rfl, rfl⟩
          · have c3 : (s.vote != -1) = true := by simp [h2]
            clear hup hmost hone hno hX h2
            go_wp2_with (first | (go_at_call 13; refine (g_term A5.out).mono ?_; rintro e w' ⟨rfl, rfl⟩) | (go_at_call 14; refine (g_vote A5.out).mono ?_; rintro e w' ⟨rfl, rfl⟩))
            go_meet
            exact ⟨rfl, rfl⟩
      case rest =>
        obtain ⟨rfl, rfl⟩ := hcut
        clear hone hno
        go_wp2_with fail
        refine (g_sync A5.out).mono ?_
        rintro e w6 ⟨rfl, j6⟩
        obtain ⟨F6, a6, n6, f6⟩ := j6.own f5 N5.out
        clear j6
        have A6 := Lib.hid a6
        have N6 := Lib.hid n6
        clear a6 n6 A5 N5 f5
        go_wp2_with fail
        refine (g_term A6.out).mono ?_
        rintro e w7 ⟨rfl, rfl⟩
        go_wp2_with fail
        refine (g_vote A6.out).mono ?_
        rintro e w7 ⟨rfl, rfl⟩
        obtain ⟨c0, -, -⟩ := HCELLS.out _ f6
        cases hb : (a.which.tmod 3 == 0)
        · go_wp2_with fail
          refine (g_term A6.out).mono ?_
          rintro e w7 ⟨rfl, rfl⟩
          go_wp2_with fail
          refine (g_vote A6.out).mono ?_
          rintro e w7 ⟨rfl, rfl⟩
          go_wp2_with fail
          go_roundw
          case rel => exact ⟨m + 1, F6, s', by omega, by go_num, A6.out.more (by omega), N6.out, f6, by omega, by omega⟩
          case measure => simp [intOf]; omega
        · go_wp2_with fail
          refine (g_crash A6.out _).mono ?_
          rintro e w7 ⟨rfl, j7⟩
          obtain ⟨F7, a7, n7, f7⟩ := j7.own f6 N6.out
          clear j7
          have A7 := Lib.hid a7
          have N7 := Lib.hid n7
          clear a7 n7 A6 N6 c0 f6
          go_wp2_with fail
          refine (g_term A7.out).mono ?_
          rintro e w8 ⟨rfl, rfl⟩
          go_wp2_with fail
          refine (g_vote A7.out).mono ?_
          rintro e w8 ⟨rfl, rfl⟩
          go_wp2_with fail
          go_roundw
          case rel => exact ⟨m + 1, F7, s', by omega, by go_num, A7.out.more (by omega), N7.out, f7, by omega, by omega⟩
          case measure => simp [intOf]; omega
end Go.Proofs.Ytoiiblopnchljaa
