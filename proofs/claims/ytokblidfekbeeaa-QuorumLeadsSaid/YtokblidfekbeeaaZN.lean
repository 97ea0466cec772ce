/-
  Several texts in one: QwL, QwN.
-/
import Derived.Test.YtokblidfekbeeaaZ31
import Derived.Test.YtokblidfekbeeaaZ05
import Derived.BigQuiet
/- The walk of QuorumLeads. -/
namespace Go.Proofs.Ytokblidfekbeeaa
open Go.ChangeShapes Go.WideShapes Go.ChangeAt Go.RowKit
set_option linter.unusedVariables false
theorem int_info : (Try.prog.info? 3).map (fun i => (i.zero, i.size, i.bytes)) = some (some (.int .i64 0), 1, 8) := by kernel_rfl
def tiV (l : List (Int × Nat)) : List Value := l.map fun x => .int .i64 x.1
def ldV (l : List (Int × Nat)) : List Value := l.map fun x => .int .i64 (x.2 : Int)
/-- The terms and the leaders that were seen. -/
structure Seen (w : World) (lab : Nat → Option Nat) (V7 V8 : Value) (l : List (Int × Nat)) (wr : World) : Prop where
  own : ∃ F1 F2 : Nat → Prop, Own wr F1 3 V7 (tiV l) ∧ Own wr F2 3 V8 (ldV l) ∧ (∀ b, F1 b → ¬ F2 b) ∧ (∀ b, F1 b → lab b = none ∧ w.heap.size ≤ b ∧ b < wr.heap.size) ∧ (∀ b, F2 b → lab b = none ∧ w.heap.size ≤ b ∧ b < wr.heap.size)
section
variable {w w' wr : World} {lab lab' : Nat → Option Nat} {z n m N : Nat} {pv : Nat → Nat} {q q1 : Qs} {F : Nat → Prop} {g : Gh} {V7 V8 : Value} {l : List (Int × Nat)}
theorem Seen.nil (w : World) (lab : Nat → Option Nat) (wr : World) : Seen w lab (.slice none 0 0) (.slice none 0 0) [] wr :=
  ⟨No, No, Own.nil _ _ _, Own.nil _ _ _, fun _ h => h.elim, fun _ h => h.elim, fun _ h => h.elim⟩
theorem Seen.frNo (h : Seen w lab V7 V8 l wr) (hf : Fr No wr w') : Seen w lab V7 V8 l w' := by
  obtain ⟨F1, F2, a1, a2, a3, a4, a5⟩ := h.own
  exact ⟨F1, F2, a1.frNo hf, a2.frNo hf, a3, fun b hb => ⟨(a4 b hb).1, (a4 b hb).2.1, Nat.lt_of_lt_of_le (a4 b hb).2.2 hf.size⟩, fun b hb => ⟨(a5 b hb).1, (a5 b hb).2.1, Nat.lt_of_lt_of_le (a5 b hb).2.2 hf.size⟩⟩
theorem Seen.step (h : Seen w lab V7 V8 l wr) (ha : ∀ b, b < wr.heap.size → lab' b = lab b) (hf : Fr (fun b => lab b ≠ none) wr w') : Seen w lab' V7 V8 l w' := by
  obtain ⟨F1, F2, a1, a2, a3, a4, a5⟩ := h.own
  refine ⟨F1, F2, a1.fr hf fun b hb hh => hh (a4 b hb).1, a2.fr hf fun b hb hh => hh (a5 b hb).1, a3, fun b hb => ?_, fun b hb => ?_⟩
  · obtain ⟨x, y, v⟩ := a4 b hb
    exact ⟨(ha b v).trans x, y, Nat.lt_of_lt_of_le v hf.size⟩
  · obtain ⟨x, y, v⟩ := a5 b hb
    exact ⟨(ha b v).trans x, y, Nat.lt_of_lt_of_le v hf.size⟩
/-- The same behind the append to the terms, and behind that to the leaders. -/
structure SeenA (w : World) (lab : Nat → Option Nat) (V7 V8 : Value) (l : List (Int × Nat)) (T : Int) (wr : World) : Prop where
  own : ∃ F1 F2 : Nat → Prop, Own wr F1 3 V7 (tiV l ++ [.int .i64 T]) ∧ Own wr F2 3 V8 (ldV l) ∧ (∀ b, F1 b → ¬ F2 b) ∧ (∀ b, F1 b → lab b = none ∧ w.heap.size ≤ b ∧ b < wr.heap.size) ∧ (∀ b, F2 b → lab b = none ∧ w.heap.size ≤ b ∧ b < wr.heap.size)
theorem SeenA.frNo {T : Int} (h : SeenA w lab V7 V8 l T wr) (hf : Fr No wr w') : SeenA w lab V7 V8 l T w' := by
  obtain ⟨F1, F2, a1, a2, a3, a4, a5⟩ := h.own
  exact ⟨F1, F2, a1.frNo hf, a2.frNo hf, a3, fun b hb => ⟨(a4 b hb).1, (a4 b hb).2.1, Nat.lt_of_lt_of_le (a4 b hb).2.2 hf.size⟩, fun b hb => ⟨(a5 b hb).1, (a5 b hb).2.1, Nat.lt_of_lt_of_le (a5 b hb).2.2 hf.size⟩⟩
theorem Seen.more {T : Int} {v' : Value} (h : Seen w lab V7 V8 l wr) (hl : ∀ b k, lab b = some k → b < wr.heap.size) (hw : w.heap.size ≤ wr.heap.size) (ha : Appended wr 0 3 V7 l.length (tiV l) [.int .i64 T] 1 v' w') :
    SeenA w lab v' V8 l T w' ∧ Fr (fun b => lab b = none ∧ w.heap.size ≤ b) wr w' := by
  obtain ⟨F1, F2, a1, a2, a3, a4, a5⟩ := h.own
  obtain ⟨o1, f1⟩ := a1.appended (by simp [tiV]) rfl ha
  have hs := f1.size
  refine ⟨⟨_, F2, o1, a2.fr f1 fun b hb hh => a3 b hh hb, fun b hb hh => ?_, fun b hb => ?_, fun b hb => ⟨(a5 b hb).1, (a5 b hb).2.1, Nat.lt_of_lt_of_le (a5 b hb).2.2 hs⟩⟩, f1.mono fun b hb => ⟨(a4 b hb).1, (a4 b hb).2.1⟩⟩
  · rcases hb with hb | ⟨rfl, hb⟩
    · exact a3 b hb hh
    · have := (a5 _ hh).2.2
      omega
  · rcases hb with hb | ⟨rfl, hb⟩
    · exact ⟨(a4 b hb).1, (a4 b hb).2.1, Nat.lt_of_lt_of_le (a4 b hb).2.2 hs⟩
    · refine ⟨?_, hw, hb⟩
      cases hlb : lab wr.heap.size with
      | none => rfl
      | some j => exact absurd (hl _ j hlb) (Nat.lt_irrefl _)
theorem SeenA.more {T : Int} {k : Nat} {v' : Value} (h : SeenA w lab V7 V8 l T wr) (hl : ∀ b k, lab b = some k → b < wr.heap.size) (hw : w.heap.size ≤ wr.heap.size) (ha : Appended wr 0 3 V8 l.length (ldV l) [.int .i64 (k : Int)] 1 v' w') :
    Seen w lab V7 v' (l ++ [(T, k)]) w' ∧ Fr (fun b => lab b = none ∧ w.heap.size ≤ b) wr w' := by
  obtain ⟨F1, F2, a1, a2, a3, a4, a5⟩ := h.own
  obtain ⟨o2, f2⟩ := a2.appended (by simp [ldV]) rfl ha
  have hs := f2.size
  refine ⟨⟨F1, _, by simpa [tiV] using a1.fr f2 fun b hb hh => a3 b hb hh, by simpa [ldV] using o2, fun b hb hh => ?_, fun b hb => ⟨(a4 b hb).1, (a4 b hb).2.1, Nat.lt_of_lt_of_le (a4 b hb).2.2 hs⟩, fun b hb => ?_⟩, f2.mono fun b hb => ⟨(a5 b hb).1, (a5 b hb).2.1⟩⟩
  · rcases hh with hh | ⟨rfl, hh⟩
    · exact a3 b hb hh
    · have := (a4 _ hb).2.2
      omega
  · rcases hb with hb | ⟨rfl, hb⟩
    · exact ⟨(a5 b hb).1, (a5 b hb).2.1, Nat.lt_of_lt_of_le (a5 b hb).2.2 hs⟩
    · refine ⟨?_, hw, hb⟩
      cases hlb : lab wr.heap.size with
      | none => rfl
      | some j => exact absurd (hl _ j hlb) (Nat.lt_irrefl _)
theorem QIn.fr' (h : QIn w lab z pv q g N n wr) (hf : Fr (fun b => lab b = none ∧ w.heap.size ≤ b) wr w') : QIn w lab z pv q g N n w' := ⟨h.at_.fr hf fun _ hb => hb.1, h.new, h.fr.trans hf fun b hb => .inr hb.2, h.inv, h.n_⟩
/-- What is known of the leaders that were seen. -/
def Led (g : Gh) (l : List (Int × Nat)) : Prop := ∀ x ∈ l, g.el x.1 = some x.2
theorem Led.ext {g' : Gh} (h : Led g l) (he : Ext g g') : Led g' l := fun x hx => he.el _ _ (h x hx)
theorem Led.snoc {T : Int} {k : Nat} (h : Led g l) (he : g.el T = some k) : Led g (l ++ [(T, k)]) := fun x hx => by
  rcases List.mem_append.1 hx with hx | hx
  · exact h x hx
  · rw [List.mem_singleton] at hx
    rw [hx]
    exact he
/-- The rows, read at one place. -/
theorem Seen.at_ (h : Seen w lab V7 V8 l wr) : ∃ A c B d, V7 = .slice A l.length c ∧ V8 = .slice B l.length d ∧ l.length ≤ c ∧ c ≤ maxLen ∧ l.length ≤ d ∧ d ≤ maxLen ∧ ∀ j, j < l.length → ∃ b b' x, A = some ⟨b, 0, none⟩ ∧ B = some ⟨b', 0, none⟩ ∧ l[j]? = some x ∧ ∀ W, Fr No wr W → W.cell? ⟨b, j, none⟩ = some (.int .i64 x.1) ∧ W.cell? ⟨b', j, none⟩ = some (.int .i64 (x.2 : Int)) := by
  obtain ⟨F1, F2, a1, a2, a3, a4, a5⟩ := h.own
  obtain ⟨A, c, rfl, -⟩ := a1.form
  obtain ⟨B, d, rfl, -⟩ := a2.form
  have h1 : (tiV l).length = l.length := by simp [tiV]
  have h2 : (ldV l).length = l.length := by simp [ldV]
  obtain ⟨c1, c2⟩ := a1.cap
  obtain ⟨d1, d2⟩ := a2.cap
  rw [h1] at c1 ⊢
  rw [h2] at d1 ⊢
  refine ⟨A, c, B, d, rfl, rfl, c1, c2, d1, d2, fun j hj => ?_⟩
  obtain ⟨x, hx⟩ : ∃ x, l[j]? = some x := ⟨_, List.getElem?_eq_getElem hj⟩
  rw [h1] at a1
  rw [h2] at a2
  obtain ⟨b, rfl, hbl, -, hb⟩ := own_head a1 (by omega)
  obtain ⟨b', rfl, hbl', -, hb'⟩ := own_head a2 (by omega)
  refine ⟨b, b', x, rfl, rfl, hx, fun W hW => ⟨?_, ?_⟩⟩
  · rw [hW.cell (p := ⟨b, j, none⟩) hbl fun h => h, (hb j (by rw [h1]; exact hj)).1]
    have := List.getElem?_eq_some_iff.1 hx
    obtain ⟨_, rfl⟩ := this
    simp [tiV]
  · rw [hW.cell (p := ⟨b', j, none⟩) hbl' fun h => h, (hb' j (by rw [h2]; exact hj)).1]
    have := List.getElem?_eq_some_iff.1 hx
    obtain ⟨_, rfl⟩ := this
    simp [ldV]
theorem Seen.row7 (h : Seen w lab V7 V8 l wr) : wr.ownsRow 0 3 1 V7 l.length (tiV l) := by
  obtain ⟨F1, F2, a1, a2, -⟩ := h.own
  exact a1.own (by simp [tiV])
theorem SeenA.row8 {T : Int} (h : SeenA w lab V7 V8 l T wr) : wr.ownsRow 0 3 1 V8 l.length (ldV l) := by
  obtain ⟨F1, F2, a1, a2, -⟩ := h.own
  exact a2.own (by simp [ldV])
theorem SeenA.form {T : Int} (h : SeenA w lab V7 V8 l T wr) : ∃ A c, V7 = .slice A (l.length + 1) c := by
  obtain ⟨F1, F2, a1, a2, -⟩ := h.own
  obtain ⟨A, c, rfl, -⟩ := a1.form
  exact ⟨A, c, by simp [tiV]⟩
end
end Go.Proofs.Ytokblidfekbeeaa
/- The walk of QuorumLeads. -/
namespace Go.Proofs.Ytokblidfekbeeaa
open Go.ChangeShapes Go.WideShapes Go.ChangeAt Go.RowKit
set_option linter.unusedVariables false
set_option maxRecDepth 100000 in
set_option maxHeartbeats 8000000 in
theorem QuorumLeads_walk (a0 : Int) (v1 : Value) (w : World) (w0 : (Lit.int .i64 a0).wf = true) (w1 : In_steps w v1) :
    Calls Try.prog 6 #[.int .i64 a0, v1] w fun e w' => e = .returned (.bool true) ∧ Below w.heap.size w w' := by
  obtain ⟨A, len, cap, acts, rfl, hacts, hlc, hM⟩ := w1
  unfold maxLen at hM
  obtain ⟨N, hN0, hN5, hN1, hodd⟩ := odd_any a0 w
  have hnew := fun W => q_new N W hN5 hN1
  have HACTS := Lib.hid hacts
  have HODD := Lib.hid hodd
  have HNEW := Lib.hid hnew
  clear hacts hodd hnew
  go_enter Try.func6, Try.ntmps6
  go_wp2_with fail
  refine HODD.out.mono ?_
  rintro e w1 ⟨rfl, rfl⟩
  go_wp2_with fail
  refine (HNEW.out _).mono ?_
  rintro e w2 ⟨z, lab, pv, rfl, q2, n2, f2⟩
  have Q2 := Lib.hid (QIn.start hN0 hN5 q2 n2 f2)
  clear q2 n2 f2 HODD HNEW
  go_wp2_with fail
  refine (awake10_any _).mono ?_
  rintro e w3 ⟨rfl, f3⟩
  have Q3 := Lib.hid (Q2.out.frNo f3)
  clear f3 Q2
  by_cases h50 : len ≤ 50
  case neg =>
    have b1 : decide ((50 : Int) < (len : Int)) = true := decide_eq_true (by omega)
    go_wp2_with fail
    refine (awake10_any _).mono ?_
    rintro e w4 ⟨rfl, f4⟩
    go_wp2_with fail
    go_ret
    exact ⟨ret_bool rfl, (Q3.out.fr.transNo f4).belowNo⟩
  have b1 : decide ((50 : Int) < (len : Int)) = false := decide_eq_false (by omega)
  go_wp2_with fail
  go_loopw [7, 8, 9] (fun V7 V8 o wr => ∃ (m : Nat) (q : Qs) (lab : Nat → Option Nat) (g : Gh) (l : List (Int × Nat)), m ≤ len ∧ o = .int .i64 m ∧ QIn w lab z pv q g N (m * 4000700000) wr ∧ Seen w lab V7 V8 l wr ∧ Led g l ∧ l.length ≤ m * 5) (fun _ _ o _ => len - (intOf o).toNat)
  case atStart => exact ⟨0, _, lab, gh0, [], Nat.zero_le _, rfl, by simpa using Q3.out, Seen.nil _ _ _, (fun x hx => by cases hx), Nat.zero_le _⟩
  case round =>
    clear Q3
    obtain ⟨m, q, lab, g, l, hm, rfl, hq, hsn, hled, hll⟩ := hrel
    obtain ⟨A7, c7, A8, c8, rfl, rfl, -⟩ := hsn.at_
    by_cases hlt : m < len
    case neg =>
      have b2 : decide (m < len) = false := decide_eq_false hlt
      have b3 : decide ((m : Int) < (len : Int)) = false := decide_eq_false (by omega)
      have HQ := Lib.hid hq
      have HSN := Lib.hid hsn
      have HLED := Lib.hid hled
      clear hq hsn hled
      go_wp2_with fail
      go_ret
      exact ⟨rfl, HQ.out.fr.belowNo⟩
    have b2 : decide (m < len) = true := decide_eq_true hlt
    have b3 : decide ((m : Int) < (len : Int)) = true := decide_eq_true (by omega)
    obtain ⟨b, off, a, rfl, ha, hone⟩ := HACTS.out.steps.one (i := m) (by rw [HACTS.out.count]; exact hlt)
    have hrs := run_step (b := b) (off := off) (n := len) (c := cap) (k := m) hlt hlc
    have hst := q_step (c := cap - m) hq hone (by omega)
    clear ha hone hq
    have HST := Lib.hid hst
    have HSN := Lib.hid hsn
    have HLED := Lib.hid hled
    clear hst hsn hled
    go_wp2_with fail
    refine HST.out.mono ?_
    rintro e w4 ⟨rfl, q', lab', g', -, q4, e4, -, l4, f4⟩
    have Q4 := Lib.hid (q4.more (m := (m + 1) * 4000700000) (by omega))
    have S4 := Lib.hid (HSN.out.step l4 f4)
    have L4 := Lib.hid (HLED.out.ext e4)
    clear HST HSN HLED q4 e4 l4 f4 hrs b2 b3
    go_wp2_with fail
    go_loopw [7, 8, 10] (fun V7 V8 o wr => ∃ (x : Nat) (l : List (Int × Nat)), x ≤ N ∧ o = .int .i64 x ∧ QIn w lab' z pv q' g' N ((m + 1) * 4000700000) wr ∧ Seen w lab' V7 V8 l wr ∧ Led g' l ∧ l.length ≤ m * 5 + x) (fun _ _ o _ => N - (intOf o).toNat)
    case atStart => exact ⟨0, l, Nat.zero_le _, rfl, Q4.out, S4.out, L4.out, hll⟩
    case round =>
      clear Q4 S4 L4 hll
      obtain ⟨x, l, hx, rfl, hq, hsn, hled, hll⟩ := hrel
      obtain ⟨A7, c7, A8, c8, rfl, rfl, -⟩ := hsn.at_
      by_cases hxN : x < N
      case neg =>
        have b2 : decide (x < N) = false := decide_eq_false hxN
        have b3 : decide ((x : Int) < (N : Int)) = false := decide_eq_false (by omega)
        have HQ := Lib.hid hq
        have HSN := Lib.hid hsn
        have HLED := Lib.hid hled
        clear hq hsn hled
        go_wp2_with fail
        go_roundw
        case rel => exact ⟨m + 1, q', lab', g', l, by omega, by go_num, HQ.out, HSN.out, HLED.out, by omega⟩
        case measure => simp [intOf]; omega
      have b2 : decide (x < N) = true := decide_eq_true hxN
      have b3 : decide ((x : Int) < (N : Int)) = true := decide_eq_true (by omega)
      have hxq : x < q'.n := by rw [hq.n_]; exact hxN
      have hrole := q_Role hq.at_ x hxq
      by_cases h3 : (q'.rs x).role = 3
      case neg =>
        have g1 : ((q'.rs x).role != 3) = true := by simpa using h3
        clear h3
        have HQ := Lib.hid hq
        have HSN := Lib.hid hsn
        have HLED := Lib.hid hled
        have HROLE := Lib.hid hrole
        clear hq hsn hled hrole
        go_wp2_with fail
        refine HROLE.out.mono ?_
        rintro e w5 ⟨rfl, rfl⟩
        go_wp2_with fail
        go_roundw
        case rel => exact ⟨x + 1, l, by omega, by go_num, HQ.out, HSN.out, HLED.out, by omega⟩
        case measure => simp [intOf]; omega
      rw [h3] at hrole
      have hel := (hq.inv.inv.v5 x hxq h3).1
      have hterm := fun W (hf : Fr No wr W) => q_Term (hq.at_.frNo hf) x hxq
      generalize (q'.rs x).js.term = T at *
      clear h3
      have HQ := Lib.hid hq
      have HSN := Lib.hid hsn
      have HLED := Lib.hid hled
      have HROLE := Lib.hid hrole
      have HEL := Lib.hid hel
      have HTERM := Lib.hid hterm
      clear hq hsn hled hrole hel hterm
      go_wp2_with fail
      refine HROLE.out.mono ?_
      rintro e w5 ⟨rfl, rfl⟩
      go_wp2_with fail
      go_loopw [11] (fun o V => ∃ y : Nat, y ≤ l.length ∧ o = .int .i64 y ∧ Fr No wr V) (fun o _ => l.length - (intOf o).toNat)
      case atStart => exact ⟨0, Nat.zero_le _, rfl, Fr.refl _ _⟩
      case round =>
        obtain ⟨y, hy, rfl, hf⟩ := hrel
        obtain ⟨A7', c7', A8', c8', e7, e8, hc7, hm7, hc8, hm8, hat⟩ := HSN.out.at_
        injection e7 with e7 _ e9
        injection e8 with e8 _ e10
        subst e7 e8 e9 e10
        unfold maxLen at hm7 hm8
        by_cases hyl : y < l.length
        · have d1 : decide (y < l.length) = true := decide_eq_true hyl
          have d2 : decide ((y : Int) < (l.length : Int)) = true := decide_eq_true (by omega)
          have hy2 : (y : Int) < (l.length : Int) := by omega
          obtain ⟨b7, b8, ⟨t, c⟩, rfl, rfl, hly, hcl⟩ := hat y hyl
          obtain ⟨k1, k2⟩ := hcl wr hf
          simp only at k1 k2
          have hlc2 := HLED.out (t, c) (List.mem_of_getElem? hly)
          simp only at hlc2
          have htm := Lib.hid fun W hfW => HTERM.out W (hf.transNo hfW)
          have HF := Lib.hid hf
          by_cases ht : t = T
          · have g1 : (t == T) = true := by simpa using ht
            rw [ht, HEL.out] at hlc2
            injection hlc2 with hlc2
            have g2 : ((c : Int) != (x : Int)) = false := by rw [hlc2]; simp
            clear ht hlc2 hat hcl hly hf
            go_wp2_with fail
            go_quiet ((go_at_call 20; exact quiet_same (htm.out _ ((Fr.refl _ _).drewN _))))
            go_wp2_with fail
            go_roundw
            case rel => exact ⟨y + 1, by omega, by go_num, HF.out.drewN _⟩
            case measure => simp [intOf]; omega
          · have g1 : (t == T) = false := by simpa using ht
            clear ht hlc2 hat hcl hly hf
            go_wp2_with fail
            go_quiet ((go_at_call 20; exact quiet_same (htm.out _ ((Fr.refl _ _).drewN _))))
            go_wp2_with fail
            go_roundw
            case rel => exact ⟨y + 1, by omega, by go_num, HF.out.drewN _⟩
            case measure => simp [intOf]; omega
        · obtain rfl : y = l.length := by omega
          have d1 : decide (l.length < l.length) = false := by simp
          have d2 : decide ((l.length : Int) < (l.length : Int)) = false := by simp
          obtain ⟨i1, hi1, hz0, hz1, hz2⟩ := info_parts int_info
          have Q5 := Lib.hid (HQ.out.frNo hf)
          have S5 := Lib.hid (HSN.out.frNo hf)
          have T5 := Lib.hid (HTERM.out wr hf)
          have hrow := Lib.hid fun W (h : Fr No wr W) => (S5.out.frNo h).row7
          have hnx := Lib.hid fun W w' v' (h : Fr No wr W) ha => Seen.more (T := T) (v' := v') (w' := w') (S5.out.frNo h) (fun b k hb => (Q5.out.at_.frNo h).lt b k hb) ((Q5.out.frNo h).fr.size) ha
          clear HQ HSN HTERM HROLE hat hf d2
          go_wp2_with fail
          refine T5.out.mono ?_
          rintro e w5 ⟨rfl, rfl⟩
          go_wp2_with (at_builtin; refine wpList_append_rd _ rfl (.tmp 84) (.tmp 88) _ rfl 0 3 i1 _ 8 Try.underlying46 hi1 hz0 hz1 hz2 rfl (.slice A7 l.length c7) l.length (tiV l) rfl (hrow.out _ (fr_alloc _ _)) (wr.heap.size + 1) (some ⟨wr.heap.size, 0, none⟩) 1 1 [.int .i64 T] rfl (fun h => by cases h) (Rd.new wr _ 3 rfl) rfl (fun u hu => by simp at hu; subst hu; rfl) (by unfold maxLen; omega) (by omega) (Nat.zero_le _) ?_)
          intro v7 w7 happ
          obtain ⟨s7, f7⟩ := hnx.out _ w7 v7 (fr_alloc _ _) happ
          obtain ⟨A9, c9, rfl⟩ := s7.form
          have q7 := (Q5.out.frNo (fr_alloc _ _)).fr' f7
          have hro8 := Lib.hid fun W (h : Fr No w7 W) => (s7.frNo h).row8
          have hnx8 := Lib.hid fun W w' v' (h : Fr No w7 W) ha => SeenA.more (k := x) (v' := v') (w' := w') (s7.frNo h) (fun b k hb => (q7.at_.frNo h).lt b k hb) ((q7.frNo h).fr.size) ha
          have Q7 := Lib.hid q7
          clear s7 f7 q7 happ hnx hrow Q5 S5 T5
          go_wp2_with (at_builtin; refine wpList_append_rd _ rfl (.tmp 90) (.tmp 92) _ rfl 0 3 i1 _ 8 Try.underlying46 hi1 hz0 hz1 hz2 rfl (.slice A8 l.length c8) l.length (ldV l) rfl (hro8.out _ (fr_alloc _ _)) (w7.heap.size + 1) (some ⟨w7.heap.size, 0, none⟩) 1 1 [.int .i64 (x : Int)] rfl (fun h => by cases h) (Rd.new w7 _ 3 rfl) rfl (fun u hu => by simp at hu; subst hu; rfl) (by unfold maxLen; omega) (by omega) (Nat.zero_le _) ?_)
          intro v8 w8 happ8
          obtain ⟨s8, f8⟩ := hnx8.out _ w8 v8 (fr_alloc _ _) happ8
          have Q8 := Lib.hid ((Q7.out.frNo (fr_alloc _ _)).fr' f8)
          obtain ⟨A10, c10, A11, c11, e10, rfl, -⟩ := s8.at_
          have S8 := Lib.hid s8
          have L8 := Lib.hid (HLED.out.snoc HEL.out)
          clear s8 f8 happ8 hnx8 hro8 Q7 e10 HLED HEL
          go_wp2_with fail
          go_roundw
          case rel => exact ⟨x + 1, l ++ [(T, x)], by omega, by go_num, Q8.out, S8.out, L8.out, by simp; omega⟩
          case measure => simp [intOf]; omega
end Go.Proofs.Ytokblidfekbeeaa
