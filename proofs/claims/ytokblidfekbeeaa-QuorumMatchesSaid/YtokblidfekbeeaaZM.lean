/-
  Several texts in one: QwM.
-/
import Derived.Test.YtokblidfekbeeaaZ31
/- The walk of QuorumMatches. -/
namespace Go.Proofs.Ytokblidfekbeeaa
open Go.ChangeShapes Go.WideShapes Go.ChangeAt Go.RowKit
set_option linter.unusedVariables false
set_option maxRecDepth 100000 in
set_option maxHeartbeats 8000000 in
theorem QuorumMatches_walk (a0 : Int) (v1 : Value) (w : World) (w0 : (Lit.int .i64 a0).wf = true) (w1 : In_steps w v1) :
    Calls Try.prog 4 #[.int .i64 a0, v1] w fun e w' => e = .returned (.bool true) ∧ Below w.heap.size w w' := by
  obtain ⟨A, len, cap, acts, rfl, hacts, hlc, hM⟩ := w1
  unfold maxLen at hM
  obtain ⟨N, hN0, hN5, hN1, hodd⟩ := odd_any a0 w
  have hnew := fun W => q_new N W hN5 hN1
  have HACTS := Lib.hid hacts
  have HODD := Lib.hid hodd
  have HNEW := Lib.hid hnew
  clear hacts hodd hnew
  go_enter Try.func4, Try.ntmps4
  go_wp2_with fail
  refine HODD.out.mono ?_
  rintro e w1 ⟨rfl, rfl⟩
  go_wp2_with fail
  refine (HNEW.out _).mono ?_
  rintro e w2 ⟨z, lab, pv, rfl, q2, n2, f2⟩
  have Q2 := Lib.hid (QIn.start hN0 hN5 q2 n2 f2)
  clear q2 n2 f2 HODD HNEW
  go_wp2_with fail
  refine (awake10_any _).mono ?_
  rintro e w3 ⟨rfl, f3⟩
  have Q3 := Lib.hid (Q2.out.frNo f3)
  clear f3 Q2
  by_cases h40 : len ≤ 40
  case neg =>
    have b1 : decide ((40 : Int) < (len : Int)) = true := decide_eq_true (by omega)
    go_wp2_with fail
    refine (awake10_any _).mono ?_
    rintro e w4 ⟨rfl, f4⟩
    go_wp2_with fail
    go_ret
    exact ⟨ret_bool rfl, (Q3.out.fr.transNo f4).belowNo⟩
  have b1 : decide ((40 : Int) < (len : Int)) = false := decide_eq_false (by omega)
  go_wp2_with fail
  go_loopw [7] (fun o wr => ∃ (m : Nat) (q : Qs) (lab : Nat → Option Nat) (g : Gh), m ≤ len ∧ o = .int .i64 m ∧ QIn w lab z pv q g N (m * 4000700000) wr) (fun o _ => len - (intOf o).toNat)
  case atStart => exact ⟨0, _, lab, gh0, Nat.zero_le _, rfl, by simpa using Q3.out⟩
  case round =>
    clear Q3
    obtain ⟨m, q, lab, g, hm, rfl, hq⟩ := hrel
    by_cases hlt : m < len
    case neg =>
      have b2 : decide (m < len) = false := decide_eq_false hlt
      have b3 : decide ((m : Int) < (len : Int)) = false := decide_eq_false (by omega)
      have HQ := Lib.hid hq
      clear hq
      go_wp2_with fail
      go_ret
      exact ⟨rfl, HQ.out.fr.belowNo⟩
    have b2 : decide (m < len) = true := decide_eq_true hlt
    have b3 : decide ((m : Int) < (len : Int)) = true := decide_eq_true (by omega)
    obtain ⟨b, off, a, rfl, ha, hone⟩ := HACTS.out.steps.one (i := m) (by rw [HACTS.out.count]; exact hlt)
    have hrs := run_step (b := b) (off := off) (n := len) (c := cap) (k := m) hlt hlc
    have hst := q_step (c := cap - m) hq hone (by omega)
    clear ha hone hq
    have HST := Lib.hid hst
    clear hst
    go_wp2_with fail
    refine HST.out.mono ?_
    rintro e w4 ⟨rfl, q', lab', g', -, q4, -⟩
    have Q4 := Lib.hid (q4.more (m := (m + 1) * 4000700000) (by omega))
    clear HST q4 hrs b2 b3
    go_wp2_with fail
    go_loopw [8] (fun o V => ∃ x : Nat, x ≤ N ∧ o = .int .i64 x ∧ QIn w lab' z pv q' g' N ((m + 1) * 4000700000) V) (fun o _ => N - (intOf o).toNat)
    case atStart => exact ⟨0, Nat.zero_le _, rfl, Q4.out⟩
    case round =>
      clear Q4
      obtain ⟨x, hx, rfl, hq⟩ := hrel
      by_cases hxN : x < N
      case neg =>
        have b2 : decide (x < N) = false := decide_eq_false hxN
        have b3 : decide ((x : Int) < (N : Int)) = false := decide_eq_false (by omega)
        have HQ := Lib.hid hq
        clear hq
        go_wp2_with fail
        go_roundw
        case rel => exact ⟨m + 1, q', lab', g', by omega, by go_num, HQ.out⟩
        case measure => simp [intOf]; omega
      have b2 : decide (x < N) = true := decide_eq_true hxN
      have b3 : decide ((x : Int) < (N : Int)) = true := decide_eq_true (by omega)
      have HQ := Lib.hid hq
      clear hq
      go_wp2_with fail
      go_loopw [9] (fun o V => ∃ y : Nat, y ≤ x ∧ o = .int .i64 y ∧ QIn w lab' z pv q' g' N ((m + 1) * 4000700000) V) (fun o _ => x - (intOf o).toNat)
      case atStart => exact ⟨0, Nat.zero_le _, rfl, HQ.out⟩
      case round =>
        clear HQ
        obtain ⟨y, hy, rfl, hq⟩ := hrel
        by_cases hyx : y < x
        case neg =>
          have d2 : decide (y < x) = false := decide_eq_false hyx
          have d3 : decide ((y : Int) < (x : Int)) = false := decide_eq_false (by omega)
          have HQ := Lib.hid hq
          clear hq
          go_wp2_with fail
          go_roundw
          case rel => exact ⟨x + 1, by omega, by go_num, HQ.out⟩
          case measure => simp [intOf]; omega
        have d2 : decide (y < x) = true := decide_eq_true hyx
        have d3 : decide ((y : Int) < (x : Int)) = true := decide_eq_true (by omega)
        have hxq : x < q'.n := by rw [hq.n_]; exact hxN
        have hyq : y < q'.n := by omega
        have hlx := q_Log hq.at_ x hxq
        have hly := fun W (hf : Fr No wr W) => q_Log (hq.at_.frNo hf) y hyq
        have hag := fun (i : Nat) (u v : Lg) => hq.inv.inv.matches hxq hyq (i := i) (x := u) (y := v)
        generalize (q'.rs x).js.log = XL at *
        generalize (q'.rs y).js.log = YL at *
        have HQ := Lib.hid hq
        have HLX := Lib.hid hlx
        have HLY := Lib.hid hly
        have HAG := Lib.hid hag
        clear hq hlx hly hag
        go_wp2_with fail
        refine HLX.out.mono ?_
        rintro e w5 ⟨A5, c5, rfl, o5, f5⟩
        have O5 := Lib.hid o5
        have F5 := Lib.hid f5
        clear o5 f5 HLX
        go_wp2_with fail
        refine (HLY.out _ F5.out).mono ?_
        rintro e w6 ⟨A6, c6, rfl, o6, f6⟩
        have hma := Lib.hid (matches_any (O5.out.frNo f6) o6 HAG.out)
        have F6 := Lib.hid (F5.out.transNo f6)
        clear o6 f6 HLY HAG F5 O5
        go_wp2_with fail
        refine hma.out.mono ?_
        rintro e w7 ⟨rfl, f7⟩
        have Q7 := Lib.hid (HQ.out.frNo (F6.out.transNo f7))
        clear f7 F6 hma HQ
        go_wp2_with fail
        go_roundw
        case rel => exact ⟨y + 1, by omega, by go_num, Q7.out⟩
        case measure => simp [intOf]; omega
end Go.Proofs.Ytokblidfekbeeaa
