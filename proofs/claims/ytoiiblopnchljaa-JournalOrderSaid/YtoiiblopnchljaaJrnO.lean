/-
  The walk of JournalOrder.
-/
import Derived.Test.YtoiiblopnchljaaJrnV
import Derived.Test.YtoiiblopnchljaaJrnH
import Derived.Test.YtoiiblopnchljaaJrnK
import Derived.Test.YtoiiblopnchljaaEntRt
namespace Go.Proofs.Ytoiiblopnchljaa
open Go.ChangeShapes Go.WideShapes Go.ChangeAt Go.RowKit
set_option linter.unusedVariables false

/-- The entries of a journal are in order. -/
structure OrdJ (s : Js) : Prop where
  each : ∀ (k : Nat) (x : Lg), s.log[k]? = some x → 1 ≤ x.term ∧ x.term ≤ s.term ∧ shapeB x.e = true
  sorted : ∀ (k : Nat) (x y : Lg), s.log[k]? = some x → s.log[k + 1]? = some y → x.term ≤ y.term
theorem termAt_some {l : List Lg} {k : Nat} {x : Lg} (h : l[k]? = some x) : termAt l (k : Int) = x.term := by
  unfold termAt
  rw [if_pos (by omega), Int.toNat_natCast, h]
  rfl
theorem OrdJ.set {s : Js} (h : OrdJ s) (t v : Int) : OrdJ (setTermS s t v) := by
  have hv := voteStep s t v
  refine ⟨fun k x hx => ?_, fun k x y hx hy => ?_⟩
  · rw [hv.log] at hx
    obtain ⟨h1, h2, h3⟩ := h.each k x hx
    exact ⟨h1, Int.le_trans h2 hv.up, h3⟩
  · rw [hv.log] at hx hy
    exact h.sorted k x y hx hy
theorem OrdJ.add {s : Js} (h : OrdJ s) (t : Int) (e : En) : OrdJ (addS s t e) := by
  by_cases h0 : addX s t e = 0
  · obtain ⟨b1, b2, b3, b4, b5, b6⟩ := addX_bd h0
    unfold addS
    rw [if_pos h0]
    refine ⟨fun k x hx => ?_, fun k x y hx hy => ?_⟩
    · simp only at hx ⊢
      rcases Nat.lt_trichotomy k s.log.length with hk | hk | hk
      · rw [List.getElem?_append_left hk] at hx
        exact h.each k x hx
      · subst hk
        rw [List.getElem?_append_right (Nat.le_refl _)] at hx
        simp at hx
        subst hx
        exact ⟨b1, b4, b3⟩
      · rw [List.getElem?_append_right (by omega)] at hx
        rw [List.getElem?_eq_none (by simp; omega)] at hx
        cases hx
    · simp only at hx hy
      have hk1 : k + 1 < s.log.length + 1 := by
        have := (List.getElem?_eq_some_iff.1 hy).1
        simpa using this
      rw [List.getElem?_append_left (by omega)] at hx
      rcases Nat.lt_or_ge (k + 1) s.log.length with hk | hk
      · rw [List.getElem?_append_left hk] at hy
        exact h.sorted k x y hx hy
      · have hk2 : k + 1 = s.log.length := by omega
        rw [hk2, List.getElem?_append_right (Nat.le_refl _)] at hy
        simp at hy
        subst hy
        have := termAt_some hx
        rw [show ((s.log.length : Int) - 1) = (k : Int) from by omega, this] at b5
        exact b5
  · rw [addS_no h0]
    exact h
theorem addS_len {s : Js} {t : Int} {e : En} : ((addX s t e == 0) = ((((addS s t e).log.length : Nat) : Int) == (s.log.length : Int) + 1)) ∧ (addS s t e).log.length ≤ s.log.length + 1 ∧ (addS s t e).term = s.term := by
  by_cases h0 : addX s t e = 0
  · unfold addS
    rw [if_pos h0]
    simp [h0]
  · rw [addS_no h0]
    refine ⟨?_, by omega, rfl⟩
    have e1 : (addX s t e == 0) = false := by simpa using h0
    have e2 : ((s.log.length : Int) == (s.log.length : Int) + 1) = false := by simp; omega
    rw [e1, e2]
theorem g_AppendO {y : Bool} {w : World} {F : Nat → Prop} {j : Nat} {s : Js} {n : Nat} (h : JG y w F j s n) (ho : OrdJ s) (t : Int) (e : En) (he : e.ok) (hsz : n + 200 ≤ 140737488355328) :
    Calls Try.prog 21 #[.pointer (some ⟨j, 0, none⟩), .int .i64 t, e.v] w fun r w' => ∃ s' X, r = .returned (.int .i64 X) ∧ OrdJ s' ∧ (X == 0) = ((s'.log.length : Int) == (s.log.length : Int) + 1) ∧ s'.log.length ≤ s.log.length + 1 ∧ s'.term = s.term ∧ JGTo false w F j s' (n + 128) w' := by
  refine (g_Append h t e he hsz).mono ?_
  rintro r w' ⟨rfl, h2⟩
  obtain ⟨h3, h4, h5⟩ := addS_len (s := s) (t := t) (e := e)
  exact ⟨_, _, rfl, ho.add t e, h3, h4, h5, h2⟩
theorem g_SetTermO {y : Bool} {w : World} {F : Nat → Prop} {j : Nat} {s : Js} {n : Nat} (h : JG y w F j s n) (ho : OrdJ s) (t v : Int) (hsz : n + 200 ≤ 140737488355328) :
    Calls Try.prog 18 #[.pointer (some ⟨j, 0, none⟩), .int .i64 t, .int .i64 v] w fun e w' => ∃ s' X, e = .returned (.int .i64 X) ∧ OrdJ s' ∧ s'.log = s.log ∧ s.term ≤ s'.term ∧ (s'.term ≤ s.term ∨ s'.term ≤ t) ∧ JGTo false w F j s' (n + 48) w' := by
  refine (g_SetTerm h t v hsz).mono ?_
  rintro e w' ⟨rfl, h2⟩
  have hv := voteStep s t v
  exact ⟨_, _, rfl, ho.set t v, hv.log, hv.up, hv.most, h2⟩

set_option maxRecDepth 100000 in
set_option maxHeartbeats 8000000 in
theorem JournalOrder_walk (v0 : Value) (w : World) (w0 : In_acts w v0) :
    Calls Try.prog 5 #[v0] w fun e w' => e = .returned (.bool true) ∧ Below w.heap.size w w' := by
  obtain ⟨A, len, cap, acts, rfl, hacts⟩ := w0
  have hM := hacts.most
  unfold maxLen at hM
  have HACTS := Lib.hid hacts
  clear hacts
  go_enter Try.func5, Try.ntmps5
  go_wp2_with fail
  refine (g_new _).mono ?_
  rintro e w1 ⟨j, F, rfl, a1, n1, f1⟩
  have A1 := Lib.hid a1
  have N1 := Lib.hid n1
  have F1 := Lib.hid f1
  clear a1 n1 f1
  go_wp2_with fail
  refine (awake8_any _).mono ?_
  rintro e w2 ⟨rfl, f2⟩
  have A2 := Lib.hid (A1.out.frNo f2)
  have F2 := Lib.hid (F1.out.transNo f2)
  clear f2 A1 F1
  by_cases h50 : len ≤ 50
  case neg =>
    have b1 : decide ((50 : Int) < (len : Int)) = true := by simp; omega
    go_wp2_with fail
    refine (awake8_any _).mono ?_
    rintro e w3 ⟨rfl, f3⟩
    go_wp2_with fail
    go_ret
    exact ⟨ret_bool rfl, (F2.out.transNo f3).belowNo⟩
  have b1 : decide ((50 : Int) < (len : Int)) = false := by simp; omega
  go_wp2_with fail
  go_loopw [4] (fun o wr => ∃ (m : Nat) (F : Nat → Prop) (s : Js), m ≤ len ∧ o = .int .i64 m ∧ JG false wr F j s (176 * m) ∧ (∀ i, F i → w.heap.size ≤ i) ∧ Fr No w wr ∧ 0 ≤ s.term ∧ s.term ≤ 2 * m ∧ s.log.length ≤ m ∧ OrdJ s) (fun o _ => len - (intOf o).toNat)
  case atStart => exact ⟨0, F, jsNew, Nat.zero_le _, rfl, A2.out.weak, N1.out, F2.out, by decide, by decide, by decide, ⟨fun k x hx => by simp at hx, fun k x y hx hy => by simp at hx⟩⟩
  case round =>
    clear A2 F2 N1
    obtain ⟨m, G, s, hm, rfl, hj, hn, F0, ht0, ht1, hll, ho⟩ := hrel
    by_cases hlt : m < len
    case neg =>
      have b2 : decide ((m : Int) < (len : Int)) = false := by simp; omega
      have HJ := Lib.hid hj
      have HN := Lib.hid hn
      clear hj hn
      go_wp2_with fail
      go_ret
      exact ⟨rfl, F0.belowNo⟩
    have b2 : decide ((m : Int) < (len : Int)) = true := by simp; omega
    obtain ⟨b, off, a, rfl, ha, hok, hcells⟩ := HACTS.out.at2 hlt
    have hi0 : (0 : Int) ≤ (m : Int) := by omega
    have hi1 : (m : Int) < (len : Int) := by omega
    clear ha hok
    have hw1 : IntKind.i64.wrap (s.term + 2) = s.term + 2 := IntWalk.i64_in _ (by omega)
    have HJ := Lib.hid hj
    have HN := Lib.hid hn
    have HCELLS := Lib.hid hcells
    have HO := Lib.hid ho
    clear hj hn hcells ho
    go_wp2_with fail
    go_region_held3 (fun V => V.cell? ⟨b, off + m * 3, none⟩ = some (.int .i64 a.which) ∧ V.cell? ⟨b, off + m * 3 + 1, none⟩ = some (.int .i64 a.a) ∧ V.cell? ⟨b, off + m * 3 + 2, none⟩ = some (.int .i64 a.b)) (exact HCELLS.out _ (by repeat (first | assumption | exact Fr.refl _ _ | refine Fr.alloc ?_ _ | refine Fr.drew ?_ | refine Fr.drewN ?_ _))) (first
      | (go_at_call 13; refine (g_term (HJ.out.frNo (by repeat (first | assumption | exact Fr.refl _ _ | refine Fr.alloc ?_ _ | refine Fr.drew ?_ | refine Fr.drewN ?_ _)))).mono ?_; rintro e w' ⟨rfl, rfl⟩)
      | (go_at_call 19; refine (between_in _ _ _ _ (by omega) (by omega) (by omega)).mono ?_; rintro e w' ⟨x, rfl, hx1, hx2, rfl⟩; have HX2 := Lib.hid hx2; clear hx1 hx2)
      | (go_at_call 18; refine (g_SetTermO (HJ.out.frNo (by repeat (first | assumption | exact Fr.refl _ _ | refine Fr.alloc ?_ _ | refine Fr.drew ?_ | refine Fr.drewN ?_ _))) HO.out _ _ (by omega)).mono ?_; rintro e w5 ⟨s5, X5, rfl, ho5, hl5, hu5, hm5, j5⟩; obtain ⟨F5, a5, n5, f5⟩ := j5.own (w0 := w) (by repeat (first | assumption | exact Fr.refl _ _ | refine Fr.alloc ?_ _ | refine Fr.drew ?_ | refine Fr.drewN ?_ _)) HN.out; have A5 := Lib.hid a5; have N5 := Lib.hid n5; have HO5 := Lib.hid ho5; clear j5 a5 n5 ho5))
    all_goals
      have hx2 := (by assumption : Hid (_ ≤ s.term + 2)).out
      have ht5 : 0 ≤ s5.term ∧ s5.term ≤ 2 * m + 2 := by omega
      clear hx2
      obtain ⟨ht50, ht51⟩ := ht5
      have hl6 : s5.log.length ≤ m := by rw [hl5]; exact hll
      clear HJ HN hl5 hu5 hm5 HO hll F0 hw1
      have hw1 : IntKind.i64.wrap (s5.term - 2) = s5.term - 2 := IntWalk.i64_in _ (by omega)
      have hw2 : IntKind.i64.wrap (s5.term + 1) = s5.term + 1 := IntWalk.i64_in _ (by omega)
      go_wp2_with fail
      refine (g_len A5.out).mono ?_
      rintro e w6 ⟨rfl, rfl⟩
      go_wp2_with fail
      go_region_held3 (fun V => V.cell? ⟨b, off + m * 3, none⟩ = some (.int .i64 a.which) ∧ V.cell? ⟨b, off + m * 3 + 1, none⟩ = some (.int .i64 a.a) ∧ V.cell? ⟨b, off + m * 3 + 2, none⟩ = some (.int .i64 a.b)) (exact HCELLS.out _ (by repeat (first | assumption | exact Fr.refl _ _ | refine Fr.alloc ?_ _ | refine Fr.drew ?_ | refine Fr.drewN ?_ _))) (first
        | (go_at_call 13; refine (g_term (A5.out.frNo (by repeat (first | assumption | exact Fr.refl _ _ | refine Fr.alloc ?_ _ | refine Fr.drew ?_ | refine Fr.drewN ?_ _)))).mono ?_; rintro e w' ⟨rfl, rfl⟩)
        | (go_at_call 19; refine (between_in _ _ _ _ (by omega) (by omega) (by omega)).mono ?_; rintro e w' ⟨x, rfl, -, -, rfl⟩)
        | (go_at_call 22; refine (note_any _ _).mono ?_; rintro e w6 ⟨rfl, f6⟩; have F6 : Fr No w5 w6 := Fr.transNo (by repeat (first | assumption | exact Fr.refl _ _ | refine Fr.alloc ?_ _ | refine Fr.drew ?_ | refine Fr.drewN ?_ _)) f6; have F6a : Fr No w w6 := f5.transNo F6; clear f6)
        | (go_at_call 21; refine (g_AppendO (A5.out.frNo (by repeat (first | assumption | exact Fr.refl _ _ | refine Fr.alloc ?_ _ | refine Fr.drew ?_ | refine Fr.drewN ?_ _))) HO5.out _ (noteE ((m : Int) % 1000)) (noteE_ok _ (note_bd _).1 (note_bd _).2) (by omega)).mono ?_; rintro e w7 ⟨s7, X7, rfl, ho7, hX7, hl7, ht7, j7⟩; obtain ⟨F7, a7, n7, f7⟩ := j7.own (w0 := w) (by repeat (first | assumption | exact Fr.refl _ _ | refine Fr.alloc ?_ _ | refine Fr.drew ?_ | refine Fr.drewN ?_ _)) N5.out; have A7 := Lib.hid a7; have N7 := Lib.hid n7; have HO7 := Lib.hid ho7; have HX7 := Lib.hid hX7; have HT7 := Lib.hid ht7; clear j7 a7 n7 ho7 hX7 ht7))
      all_goals
        clear A5 N5 HO5 F6 F6a f5
        go_wp2_with fail
        refine (g_len A7.out).mono ?_
        rintro e w8 ⟨rfl, rfl⟩
        have hX7 := HX7.out
        revert hX7
        generalize (X7 == 0) = Y
        intro hX7
        subst hX7
        go_wp2_with fail
        go_loopw [7] (fun o wr => ∃ k : Nat, k ≤ s7.log.length ∧ o = .int .i64 k ∧ Fr No w7 wr) (fun o _ => s7.log.length - (intOf o).toNat)
        case atStart => exact ⟨0, Nat.zero_le _, rfl, Fr.refl _ _⟩
        case round =>
          obtain ⟨k, hk, rfl, f8⟩ := hrel
          have A8 := Lib.hid (A7.out.frNo f8)
          have FF := Lib.hid f8
          clear f8
          go_wp2_with fail
          refine (g_len A8.out).mono ?_
          rintro e w8 ⟨rfl, rfl⟩
          by_cases hkl : k < s7.log.length
          case neg =>
            have b3 : decide (k < s7.log.length) = false := by simp; omega
            have F9 := f7.transNo FF.out
            go_wp2_with fail
            go_roundw
            case rel => have ht7 := HT7.out; exact ⟨m + 1, F7, s7, by omega, by go_num, A8.out.more (by omega), N7.out, F9, by omega, by omega, by omega, HO7.out⟩
            case measure => simp [intOf]; omega
          have b3 : decide (k < s7.log.length) = true := by simp; omega
          obtain ⟨x, hx⟩ : ∃ x, s7.log[k]? = some x := ⟨_, List.getElem?_eq_getElem hkl⟩
          obtain ⟨g1, g2, g3⟩ := HO7.out.each k x hx
          have hta := termAt_some hx
          have hat := fun W (hf : Fr No w7 W) => g_at (A7.out.frNo hf) (k : Int)
          rw [atJ_some hx] at hat
          have d1 : decide (termAt s7.log (k : Int) < 1) = false := by rw [hta]; simp; omega
          have d2 : decide (s7.term < termAt s7.log (k : Int)) = false := by rw [hta]; simp; omega
          have hsh := fun W => rShape_any x.e W
          rw [g3] at hsh
          have hk4 : k ≤ 4096 := by omega
          obtain ⟨d3, d4⟩ : ∃ c : Bool, decide (0 < k) = c ∧ (c = true → decide (termAt s7.log (k : Int) < termAt s7.log ((k : Int) - 1)) = false) := by
            refine ⟨_, rfl, fun hc => ?_⟩
            have hk0 : 0 < k := by simpa using hc
            obtain ⟨z, hz⟩ : ∃ z, s7.log[k - 1]? = some z := ⟨_, List.getElem?_eq_getElem (by omega)⟩
            have e1 := HO7.out.sorted (k - 1) z x hz (by rw [show k - 1 + 1 = k from by omega]; exact hx)
            have e2 := termAt_some hz
            rw [show (((k - 1 : Nat)) : Int) = (k : Int) - 1 from by omega] at e2
            rw [hta, e2]
            simp
            omega
          obtain ⟨t, ⟨kd, tick, te, ce, ot, ep, fr, un, n⟩⟩ := x
          unfold Lg.v at hat
          unfold En.v at hsh
          simp only at hat hsh
          clear hta g1 g2 g3 hx
          have HAT := Lib.hid hat
          have HSH := Lib.hid hsh
          clear hat hsh
          cases d3
          · obtain ⟨d4, -⟩ := d4
            go_wp2_with (first
              | (go_at_call 23; refine (g_termAt A8.out _).mono ?_; rintro e w9 ⟨rfl, f9⟩; replace A8 := Lib.hid (A8.out.frNo f9); replace FF := Lib.hid (FF.out.transNo f9); clear f9)
              | (go_at_call 13; refine (g_term A8.out).mono ?_; rintro e w9 ⟨rfl, rfl⟩)
              | (go_at_call 16; refine (HAT.out _ FF.out).mono ?_; rintro e w9 ⟨rfl, f9⟩; replace FF := Lib.hid (FF.out.transNo f9); clear f9)
              | (go_at_call 24; refine (HSH.out _).mono ?_; rintro e w10 ⟨rfl, f10⟩; replace FF := Lib.hid ((FF.out.alloc _).transNo f10); clear f10))
            go_roundw
            case rel => exact ⟨k + 1, by omega, by go_num, FF.out⟩
            case measure => simp [intOf]; omega
          · obtain ⟨d4, d5⟩ := d4
            have d6 := d5 rfl
            clear d5
            go_wp2_with (first
              | (go_at_call 23; refine (g_termAt A8.out _).mono ?_; rintro e w9 ⟨rfl, f9⟩; replace A8 := Lib.hid (A8.out.frNo f9); replace FF := Lib.hid (FF.out.transNo f9); clear f9)
              | (go_at_call 13; refine (g_term A8.out).mono ?_; rintro e w9 ⟨rfl, rfl⟩)
              | (go_at_call 16; refine (HAT.out _ FF.out).mono ?_; rintro e w9 ⟨rfl, f9⟩; replace FF := Lib.hid (FF.out.transNo f9); clear f9)
              | (go_at_call 24; refine (HSH.out _).mono ?_; rintro e w10 ⟨rfl, f10⟩; replace FF := Lib.hid ((FF.out.alloc _).transNo f10); clear f10))
            go_roundw
            case rel => exact ⟨k + 1, by omega, by go_num, FF.out⟩
            case measure => simp [intOf]; omega
end Go.Proofs.Ytoiiblopnchljaa
