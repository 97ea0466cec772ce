/-
  Several texts in one: QwG.
-/
import Derived.Test.YtokblidfekbeeaaZ31
/- The walk of QuorumAgrees. -/
namespace Go.Proofs.Ytokblidfekbeeaa
open Go.ChangeShapes Go.WideShapes Go.ChangeAt Go.RowKit
set_option linter.unusedVariables false
set_option maxRecDepth 100000 in
set_option maxHeartbeats 8000000 in
theorem QuorumAgrees_walk (a0 : Int) (v1 : Value) (w : World) (w0 : (Lit.int .i64 a0).wf = true) (w1 : In_steps w v1) :
    Calls Try.prog 5 #[.int .i64 a0, v1] w fun e w' => e = .returned (.bool true) ∧ Below w.heap.size w w' := by
  obtain ⟨A, len, cap, acts, rfl, hacts, hlc, hM⟩ := w1
  unfold maxLen at hM
  obtain ⟨N, hN0, hN5, hN1, hodd⟩ := odd_any a0 w
  have hnew := fun W => q_new N W hN5 hN1
  have HACTS := Lib.hid hacts
  have HODD := Lib.hid hodd
  have HNEW := Lib.hid hnew
  clear hacts hodd hnew
  go_enter Try.func5, Try.ntmps5
  go_wp2_with fail
  refine HODD.out.mono ?_
  rintro e w1 ⟨rfl, rfl⟩
  go_wp2_with fail
  refine (HNEW.out _).mono ?_
  rintro e w2 ⟨z, lab, pv, rfl, q2, n2, f2⟩
  have Q2 := Lib.hid (QIn.start hN0 hN5 q2 n2 f2)
  clear q2 n2 f2 HODD HNEW
  go_wp2_with fail
  refine (awake10_any _).mono ?_
  rintro e w3 ⟨rfl, f3⟩
  have Q3 := Lib.hid (Q2.out.frNo f3)
  clear f3 Q2
  by_cases h50 : len ≤ 50
  case neg =>
    have b1 : decide ((50 : Int) < (len : Int)) = true := decide_eq_true (by omega)
    go_wp2_with fail
    refine (awake10_any _).mono ?_
    rintro e w4 ⟨rfl, f4⟩
    go_wp2_with fail
    go_ret
    exact ⟨ret_bool rfl, (Q3.out.fr.transNo f4).belowNo⟩
  have b1 : decide ((50 : Int) < (len : Int)) = false := decide_eq_false (by omega)
  go_wp2_with fail
  go_loopw [7] (fun o wr => ∃ (m : Nat) (q : Qs) (lab : Nat → Option Nat) (g : Gh), m ≤ len ∧ o = .int .i64 m ∧ QIn w lab z pv q g N (m * 4000700000) wr) (fun o _ => len - (intOf o).toNat)
  case atStart => exact ⟨0, _, lab, gh0, Nat.zero_le _, rfl, by simpa using Q3.out⟩
  case round =>
    clear Q3
    obtain ⟨m, q, lab, g, hm, rfl, hq⟩ := hrel
    by_cases hlt : m < len
    case neg =>
      have b2 : decide (m < len) = false := decide_eq_false hlt
      have b3 : decide ((m : Int) < (len : Int)) = false := decide_eq_false (by omega)
      have HQ := Lib.hid hq
      clear hq
      go_wp2_with fail
      go_ret
      exact ⟨rfl, HQ.out.fr.belowNo⟩
    have b2 : decide (m < len) = true := decide_eq_true hlt
    have b3 : decide ((m : Int) < (len : Int)) = true := decide_eq_true (by omega)
    obtain ⟨b, off, a, rfl, ha, hone⟩ := HACTS.out.steps.one (i := m) (by rw [HACTS.out.count]; exact hlt)
    have hrs := run_step (b := b) (off := off) (n := len) (c := cap) (k := m) hlt hlc
    have hcm := q_Committed hq.at_
    have hqf := fun W (hf : Fr No wr W) => hq.frNo hf
    have hltb := hq.at_.lt
    clear ha hq
    have HCM := Lib.hid hcm
    have HQF := Lib.hid hqf
    have HLTB := Lib.hid hltb
    have HONE := Lib.hid hone
    clear hcm hqf hltb hone
    go_wp2_with fail
    refine HCM.out.mono ?_
    rintro e w4 ⟨A4, c4, rfl, o4, f4⟩
    have hst := Lib.hid (q_step (c := cap - m) (HQF.out _ f4) HONE.out (by omega))
    have hkeep := Lib.hid (show ∀ W, Fr (fun b => lab b ≠ none) w4 W → OwnN W (fun b => wr.heap.size ≤ b) TEq 9 (.slice A4 q.done.length c4) q.done.length (entV q.done) from fun W hf => o4.fr' hf fun b hb hh => by
      have := o4.2 b hb
      cases hlb : lab b with
      | none => exact hh hlb
      | some j => have := HLTB.out b j hlb; omega)
    clear o4 f4 HCM HQF HONE HLTB
    go_wp2_with fail
    refine hst.out.mono ?_
    rintro e w5 ⟨rfl, q', lab', g', -, q5, -, d5, -, f5⟩
    have o5 := hkeep.out _ f5
    have hcm := q_Committed q5.at_
    have hbg := fun W (hf : Fr No w5 W) => o5.frNo hf
    have Q5 := Lib.hid q5
    have D5 := Lib.hid d5
    clear hst hkeep f5 o5 q5 d5
    have HCM := Lib.hid hcm
    have HBG := Lib.hid hbg
    clear hcm hbg
    go_wp2_with fail
    refine HCM.out.mono ?_
    rintro e w6 ⟨A6, c6, rfl, o6, f6⟩
    have hb6 := begins_any (HBG.out _ f6) o6
    rw [decide_eq_true D5.out] at hb6
    have Q6 := Lib.hid ((Q5.out.frNo f6).more (m := (m + 1) * 4000700000) (by omega))
    have O6 := Lib.hid (o6.mono (G := fun b => w.heap.size ≤ b) fun b hb => Nat.le_trans Q5.out.fr.size hb)
    clear o6 f6 HCM HBG D5 Q5
    have HB6 := Lib.hid hb6
    clear hb6
    go_wp2_with fail
    refine HB6.out.mono ?_
    rintro e w7 ⟨rfl, f7⟩
    have Q7 := Lib.hid (Q6.out.frNo f7)
    have O7 := Lib.hid (O6.out.frNo f7)
    clear HB6 Q6 O6 f7
    go_wp2_with fail
    go_loopw [10] (fun o V => ∃ x : Nat, x ≤ N ∧ o = .int .i64 x ∧ Fr No w7 V) (fun o _ => N - (intOf o).toNat)
    case atStart => exact ⟨0, Nat.zero_le _, rfl, Fr.refl _ _⟩
    case round =>
      obtain ⟨x, hx, rfl, hf⟩ := hrel
      have Q8 := Lib.hid (Q7.out.frNo hf)
      have O8 := Lib.hid (O7.out.frNo hf)
      by_cases hxN : x < N
      case neg =>
        have b2 : decide (x < N) = false := decide_eq_false hxN
        have b3 : decide ((x : Int) < (N : Int)) = false := decide_eq_false (by omega)
        clear hf
        go_wp2_with fail
        go_roundw
        case rel => exact ⟨m + 1, q', lab', g', by omega, by go_num, Q8.out⟩
        case measure => simp [intOf]; omega
      have b2 : decide (x < N) = true := decide_eq_true hxN
      have b3 : decide ((x : Int) < (N : Int)) = true := decide_eq_true (by omega)
      have hxq : x < q'.n := by rw [Q8.out.n_]; exact hxN
      have hlog := q_Log Q8.out.at_ x hxq
      have hcom := fun W (hf : Fr No wr W) => q_Commit (Q8.out.at_.frNo hf) x hxq
      have hcl := ((Q8.out.at_.ok.each x hxq).1).com
      have hfew := ((Q8.out.at_.ok.each x hxq).1).log.few
      have hpre := Q8.out.inv.commit_pre hxq
      have hdl := Q8.out.at_.ok.done
      generalize (q'.rs x).js.log = LL at *
      generalize (q'.rs x).commit = C at *
      have HF := Lib.hid hf
      clear hf
      have HLOG := Lib.hid hlog
      have HCOM := Lib.hid hcom
      have HPRE := Lib.hid hpre
      clear hlog hcom hpre
      go_wp2_with fail
      refine HLOG.out.mono ?_
      rintro e w9 ⟨A9, c9, rfl, o9, f9⟩
      obtain ⟨hc91, hc92⟩ := o9.cap
      unfold maxLen at hc92
      have hat := Lib.hid fun i hi => (Ent.of_own o9).at_ (i := i) hi
      have hcom := fun W (hf : Fr No w9 W) => HCOM.out W (f9.transNo hf)
      have F9 := Lib.hid f9
      have n1 : decide ((C : Int) < 0) = false := decide_eq_false (by omega)
      have n2 : decide (LL.length < C) = false := decide_eq_false (by omega)
      have n3 : decide ((LL.length : Int) < (C : Int)) = false := decide_eq_false (by omega)
      clear o9 f9 HLOG HCOM
      have HCOM := Lib.hid hcom
      clear hcom
      go_wp2_with (first | (go_at_call 18; refine (HCOM.out _ (by repeat (first | assumption | exact Fr.refl _ _ | refine Fr.alloc ?_ _ | refine Fr.drew ?_ | refine Fr.drewN ?_ _))).mono ?_; rintro e w' ⟨rfl, rfl⟩))
      go_loopw [12, 13] (fun l i V => ∃ j : Nat, j ≤ C ∧ i = .int .i64 j ∧ OwnN V (fun b => w9.heap.size ≤ b) TEq 9 l j (entV ((LL.take j).map (·.e))) ∧ Fr No w9 V) (fun _ i _ => C - (intOf i).toNat)
      case atStart => exact ⟨0, Nat.zero_le _, rfl, by simpa [entV] using OwnN.nil _ _ _ _, Fr.refl _ _⟩
      case round =>
        obtain ⟨j, hj, rfl, oj, fj⟩ := hrel
        obtain ⟨A12, c12, rfl, -⟩ := oj.form
        by_cases hlj : j < C
        · have d1 : decide (j < C) = true := decide_eq_true hlj
          have d2 : decide ((j : Int) < (C : Int)) = true := decide_eq_true (by omega)
          have hlj2 : (j : Int) < (LL.length : Int) := by omega
          obtain ⟨b9, off9, x9, rfl, hx9, hcs⟩ := hat.out j (by omega)
          obtain ⟨y0, y1, y2, y3, y4, y5, y6, y7, y8, y9⟩ := hcs wr fj
          have hsn : entV ((LL.take (j + 1)).map (·.e)) = entV ((LL.take j).map (·.e)) ++ x9.e.cells := by
            rw [List.take_add_one, hx9, Option.toList_some, List.map_append, List.map_singleton, entV_snoc]
          obtain ⟨X, hX⟩ : ∃ X, X = entV ((LL.take j).map (·.e)) := ⟨_, rfl⟩
          rw [← hX] at hsn oj
          clear hX
          obtain ⟨t, ⟨kd, tick, te, ce, ot, ep, fr, un, nn⟩⟩ := x9
          change entV _ = X ++ En.cells ⟨kd, tick, te, ce, ot, ep, fr, un, nn⟩ at hsn
          simp only at y1 y2 y3 y4 y5 y6 y7 y8 y9
          obtain ⟨i1, hi1, hz0, hz1, hz2⟩ := info_parts enq_info
          have FJ := Lib.hid fj
          have OJ := Lib.hid fun W (hf : Fr No wr W) => oj.frNo hf
          clear oj fj hcs hx9
          have HSN := Lib.hid hsn
          clear hsn
          go_wp2_with (first | (go_at_call 18; refine (HCOM.out _ FJ.out).mono ?_; rintro e w' ⟨rfl, rfl⟩) | (at_builtin; refine wpList_append_rdN _ rfl (.tmp 90) (.tmp 96) _ rfl 0 TEq i1 _ 9 72 Try.underlying39 hi1 hz0 hz1 hz2 rfl (by decide) (.slice A12 j c12) j X rfl (OJ.out _ (fr_alloc _ _)).1 (wr.heap.size + 1) (some ⟨wr.heap.size, 0, none⟩) 1 1 (En.cells ⟨kd, tick, te, ce, ot, ep, fr, un, nn⟩) rfl ?ka1 ?ka2 ?ka3 ?ka4 ?ka5 ?ka6 ?ka7 ?_))
          case ka1 => exact fun h => by cases h
          case ka2 => exact Rd.new _ _ _ rfl
          case ka3 => rfl
          case ka4 => exact fun u hu => by simp [En.cells] at hu; rcases hu with rfl | rfl | rfl | rfl | rfl | rfl | rfl | rfl | rfl <;> rfl
          case ka5 => unfold maxLen; omega
          case ka6 => omega
          case ka7 => exact Nat.zero_le _
          intro v1 w1 happ
          obtain ⟨o1, f1⟩ := (OJ.out _ (fr_alloc _ _)).appended happ
          have hsz := FJ.out.size
          have o2 : OwnN w1 (fun b => w9.heap.size ≤ b) TEq 9 v1 (j + 1) (entV ((LL.take (j + 1)).map (·.e))) := by
            rw [HSN.out]
            exact o1.mono fun i hi => by
              rcases hi with hi | hi
              · exact hi
              · have := hi.1
                simp at this
                omega
          have F2 := Lib.hid ((FJ.out.transNo (fr_alloc _ _)).transNew f1 fun i hi => hi)
          obtain ⟨A', c', rfl, -⟩ := o2.form
          have O2 := Lib.hid o2
          clear happ o1 o2 f1 HSN OJ FJ
          go_wp2_with fail
          go_roundw
          case rel => exact ⟨j + 1, by omega, by go_num, O2.out, F2.out⟩
          case measure => simp [intOf]; omega
        · obtain rfl : j = C := by omega
          have d1 : decide (j < j) = false := by simp
          have d2 : decide ((j : Int) < (j : Int)) = false := by simp
          have hlC : ((LL.take j).map (·.e)).length = j := by rw [List.length_map, List.length_take]; omega
          have hbx := begins_any (w := wr) (A := A12) (c := c12) (xs := (LL.take j).map (·.e)) (by rw [hlC]; exact oj) (O8.out.frNo (F9.out.transNo fj))
          rw [hlC, decide_eq_true HPRE.out] at hbx
          have FJ := Lib.hid fj
          have FZ := Lib.hid fun W (hf : Fr No wr W) => HF.out.transNo (F9.out.transNo (fj.transNo hf))
          clear oj fj hlC d2
          have HBX := Lib.hid hbx
          clear hbx
          go_wp2_with (first | (go_at_call 18; refine (HCOM.out _ FJ.out).mono ?_; rintro e w' ⟨rfl, rfl⟩))
          refine HBX.out.mono ?_
          rintro e w10 ⟨rfl, f10⟩
          have F10 := Lib.hid (FZ.out _ f10)
          clear f10 HBX FZ
          go_wp2_with fail
          go_roundw
          case rel => exact ⟨x + 1, by omega, by go_num, F10.out⟩
          case measure => simp [intOf]; omega
end Go.Proofs.Ytokblidfekbeeaa
