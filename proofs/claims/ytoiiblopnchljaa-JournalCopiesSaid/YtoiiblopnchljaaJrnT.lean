/-
  The walk of JournalCopies.
-/
import Derived.Test.YtoiiblopnchljaaJrnI
import Derived.Test.YtoiiblopnchljaaJrnM
import Derived.Test.YtoiiblopnchljaaJrnL
import Derived.Test.YtoiiblopnchljaaRowI
import Derived.Test.YtoiiblopnchljaaActs
import Derived.Test.YtoiiblopnchljaaSame
import Derived.Deep.RegionHeld3
namespace Go.Proofs.Ytoiiblopnchljaa
open Go.ChangeShapes Go.WideShapes Go.ChangeAt Go.RowKit
set_option linter.unusedVariables false

section
variable {y : Bool} {w : World} {F : Nat → Prop} {j : Nat} {s : Js} {n : Nat}
theorem g_SetTermA (h : JG y w F j s n) (t v : Int) (hsz : n + 200 ≤ 140737488355328) :
    Calls Try.prog 18 #[.pointer (some ⟨j, 0, none⟩), .int .i64 t, .int .i64 v] w fun e w' => ∃ X s', e = .returned (.int .i64 X) ∧ JGTo false w F j s' (n + 48) w' := by
  refine (g_SetTerm h t v hsz).mono ?_
  rintro e w' ⟨rfl, h2⟩
  exact ⟨_, _, rfl, h2⟩
theorem g_AppendA (h : JG y w F j s n) (t : Int) (e : En) (he : e.ok) (hsz : n + 200 ≤ 140737488355328) :
    Calls Try.prog 21 #[.pointer (some ⟨j, 0, none⟩), .int .i64 t, e.v] w fun r w' => ∃ X s', r = .returned (.int .i64 X) ∧ JGTo false w F j s' (n + 128) w' := by
  refine (g_Append h t e he hsz).mono ?_
  rintro e w' ⟨rfl, h2⟩
  exact ⟨_, _, rfl, h2⟩
theorem g_CutA (h : JG y w F j s n) (c : Int) (hsz : n + 200 ≤ 140737488355328) :
    Calls Try.prog 36 #[.pointer (some ⟨j, 0, none⟩), .int .i64 c] w fun e w' => ∃ X s', e = .returned (.int .i64 X) ∧ JGTo false w F j s' (n + 38) w' := by
  refine (g_Cut h c hsz).mono ?_
  rintro e w' ⟨rfl, h2⟩
  exact ⟨_, _, rfl, h2⟩
end

set_option maxRecDepth 100000 in
set_option maxHeartbeats 8000000 in
theorem JournalCopies_walk (a0 : Option Addr) (len0 cap0 : Nat) (z0 : List Int) (v1 : Value) (w : World) (w0 : IsRow .i64 w a0 len0 cap0 z0) (w1 : In_acts w v1) (s0 : cap0 * 8 ≤ 140737488351232) :
    Calls Try.prog 8 #[.slice a0 len0 cap0, v1] w fun e w' => e = .returned (.bool true) ∧ Below w.heap.size w w' := by
  obtain ⟨q, hq, hm, hc, hn, hr, -⟩ := w0.openI
  have hgr := grown_any a0 len0 cap0 q 0 w w.heap.size hn hq hr (Nat.le_refl _) hm
  have hq30 : (q.take 30).length ≤ 30 := by rw [List.length_take]; omega
  generalize q.take 30 = p at *
  obtain ⟨A, len, cap, acts, rfl, hacts⟩ := w1
  have hM := hacts.most
  unfold maxLen at hM
  clear w0 hq hn hr
  have hgx := gxs_len p
  have hlg : (gst p).log.length ≤ 4096 := by show (gl p).length ≤ 4096; rw [gl_len]; omega
  have hll : (gst p).log.length = p.length := gl_len p
  have hgood := grown_good p (by omega)
  have HGR := Lib.hid hgr
  have HACTS := Lib.hid hacts
  have HGX := Lib.hid hgx
  have HLG := Lib.hid hlg
  have HLL := Lib.hid hll
  have HGOOD := Lib.hid hgood
  clear hgr hacts hgx hlg hll hgood
  go_enter Try.func8, Try.ntmps8
  go_wp2_with fail
  refine HGR.out.mono ?_
  rintro e w1 ⟨j, d, F, Ao, co, ns, rfl, g1⟩
  have A1 := Lib.hid g1.jn
  have F1 := Lib.hid g1.fr
  clear g1
  by_cases h50 : len ≤ 50
  case neg =>
    have b1 : decide ((50 : Int) < (len : Int)) = true := by simp; omega
    go_wp2_with fail
    refine (awake8_any _).mono ?_
    rintro e w3 ⟨rfl, f3⟩
    go_wp2_with fail
    go_ret
    exact ⟨rfl, (F1.out.transNo f3).belowNo⟩
  have b1 : decide ((50 : Int) < (len : Int)) = false := by simp; omega
  go_wp2_with fail
  refine (j_bytes A1.out).mono ?_
  rintro e w2 ⟨A2, c2, rfl, o2, f2⟩
  have A3 := Lib.hid (A1.out.frNo f2)
  have F3 := Lib.hid (F1.out.transNo f2)
  have O3 := Lib.hid o2
  clear A1 F1 o2 f2
  go_wp2_with fail
  refine (j_copy A3.out HLG.out).mono ?_
  rintro e w3 ⟨i, d3, G, rfl, b3, n3, f3⟩
  have j3 : JG false w3 G i (gst p) 4000 := ⟨d3, _, _, _, b3, HGOOD.out, HLG.out, by have := HGX.out; omega, fun h => by cases h⟩
  clear b3
  have Q3 := Lib.hid f3
  clear f3
  have J3 := Lib.hid j3
  have N3 := Lib.hid n3
  clear j3 n3
  go_wp2_with fail
  go_loopw [10] (fun o wr => ∃ (m : Nat) (G : Nat → Prop) (s : Js), m ≤ len ∧ o = .int .i64 m ∧ JG false wr G i s (4000 + 214 * m) ∧ (∀ x, G x → w2.heap.size ≤ x) ∧ Fr No w2 wr) (fun o _ => len - (intOf o).toNat)
  case atStart => exact ⟨0, G, gst p, Nat.zero_le _, rfl, J3.out, N3.out, Q3.out⟩
  case round =>
    clear J3 N3 Q3
    obtain ⟨m, G, s, hm, rfl, hj, hn, f0⟩ := hrel
    have F0 := Lib.hid f0
    clear f0
    by_cases hlt : m < len
    case neg =>
      have b2 : decide ((m : Int) < (len : Int)) = false := by simp; omega
      have A4 := Lib.hid (A3.out.frNo F0.out)
      have O4 := Lib.hid (O3.out.frNo F0.out)
      have F4 := Lib.hid (F3.out.transNo F0.out)
      clear hj hn F0 A3 O3 F3
      go_wp2_with fail
      refine (awake8_any _).mono ?_
      rintro e w5 ⟨rfl, f5⟩
      have A5 := Lib.hid (A4.out.frNo f5)
      have O5 := Lib.hid (O4.out.frNo f5)
      have F5 := Lib.hid (F4.out.transNo f5)
      clear f5 A4 O4 F4
      go_wp2_with fail
      refine (j_len A5.out).mono ?_
      rintro e w6 ⟨rfl, rfl⟩
      rw [HLL.out]
      go_wp2_with fail
      refine (j_term A5.out).mono ?_
      rintro e w6 ⟨rfl, rfl⟩
      go_wp2_with fail
      refine (j_bytes A5.out).mono ?_
      rintro e w7 ⟨A7, c7, rfl, o7, f7⟩
      have hsb := same_bytes A7 A2 (gxs p).length c7 (gxs p).length c2 (gxs p) (gxs p) _ _ w7 o7.len.2 rfl o7.rd O5.out.len.2 rfl (O5.out.frNo f7).rd
      have F7 := Lib.hid (F5.out.transNo f7)
      rw [beq_self_eq_true] at hsb
      clear f7 o7 A5 O5 F5
      have HSB := Lib.hid hsb
      clear hsb
      go_wp2_with fail
      refine HSB.out.mono ?_
      rintro e w8 ⟨rfl, rfl⟩
      go_wp2_with fail
      go_ret
      exact ⟨rfl, F7.out.belowNo⟩
    have b2 : decide ((m : Int) < (len : Int)) = true := by simp; omega
    obtain ⟨b, off, a, rfl, ha, hok, hcells⟩ := HACTS.out.at2 hlt
    have hi0 : (0 : Int) ≤ (m : Int) := by omega
    have hi1 : (m : Int) < (len : Int) := by omega
    clear ha hok
    have HJ := Lib.hid hj
    have HN := Lib.hid hn
    have HCELLS := Lib.hid hcells
    clear hj hn hcells
    obtain ⟨c0, c1, c2⟩ := HCELLS.out _ (F3.out.transNo F0.out)
    go_wp2_with fail
    refine (mod_any _ 4 _ (by decide) (by decide)).mono ?_
    rintro e w4 ⟨rfl, rfl⟩
    go_wp2_with fail
    refine (g_SetTermA HJ.out _ _ (by omega)).mono ?_
    rintro e w5 ⟨X5, s5, rfl, j5⟩
    obtain ⟨G5, a5, n5, f5⟩ := j5.own F0.out HN.out
    have A5 := Lib.hid a5
    have N5 := Lib.hid n5
    have F5 := Lib.hid f5
    clear j5 a5 n5 f5 HJ HN F0 c0 c1 c2
    obtain ⟨c0, c1, c2⟩ := HCELLS.out _ (F3.out.transNo F5.out)
    go_wp2_with fail
    refine (note_any _ _).mono ?_
    rintro e w6 ⟨rfl, f6⟩
    have A6 := Lib.hid (A5.out.frNo f6)
    have F6 := Lib.hid (F5.out.transNo f6)
    clear f6 A5 F5
    go_wp2_with fail
    refine (g_AppendA A6.out _ (noteE (a.b % 1000)) (noteE_ok _ (note_bd _).1 (note_bd _).2) (by omega)).mono ?_
    rintro e w7 ⟨X7, s7, rfl, j7⟩
    obtain ⟨G7, a7, n7, f7⟩ := j7.own F6.out N5.out
    have hl7 := a7.few
    have A7 := Lib.hid a7
    have N7 := Lib.hid n7
    have F7 := Lib.hid f7
    clear j7 a7 n7 A6 N5 F6 c0 c1 c2
    have hw1 : IntKind.i64.wrap ((s7.log.length : Int) + 1) = (s7.log.length : Int) + 1 := IntWalk.i64_in _ (by omega)
    have G7w : Fr No w w7 := F3.out.transNo f7
    go_wp2_with fail
    go_region_held3 (fun V => V.cell? ⟨b, off + m * 3, none⟩ = some (.int .i64 a.which) ∧ V.cell? ⟨b, off + m * 3 + 1, none⟩ = some (.int .i64 a.a) ∧ V.cell? ⟨b, off + m * 3 + 2, none⟩ = some (.int .i64 a.b)) (exact HCELLS.out _ (by repeat (first | assumption | exact Fr.refl _ _ | refine Fr.alloc ?_ _ | refine Fr.drew ?_ | refine Fr.drewN ?_ _))) (first
      | (go_at_call 15; refine (g_len (A7.out.frNo (by repeat (first | assumption | exact Fr.refl _ _ | refine Fr.alloc ?_ _ | refine Fr.drew ?_ | refine Fr.drewN ?_ _)))).mono ?_; rintro e w' ⟨rfl, rfl⟩)
      | (go_at_call 27; refine (mod_any _ _ _ (by omega) (by omega)).mono ?_; rintro e w' ⟨rfl, rfl⟩)
      | (go_at_call 36; refine (g_CutA (A7.out.frNo (by repeat (first | assumption | exact Fr.refl _ _ | refine Fr.alloc ?_ _ | refine Fr.drew ?_ | refine Fr.drewN ?_ _))) _ (by omega)).mono ?_; rintro e w8 ⟨X8, s8, rfl, j8⟩; obtain ⟨G8, a8, n8, f8⟩ := j8.own (w0 := w2) (by repeat (first | assumption | exact Fr.refl _ _ | refine Fr.alloc ?_ _ | refine Fr.drew ?_ | refine Fr.drewN ?_ _)) N7.out; have A8 := Lib.hid a8; have N8 := Lib.hid n8; have F8 := Lib.hid f8; have H8 : Fr No w w8 := F3.out.transNo f8; clear j8 a8 n8 f8))
    all_goals
      clear A7 N7 F7 f7 G7w hw1 hl7
      obtain ⟨c0, c1, c2⟩ := HCELLS.out _ H8
      clear H8
      go_wp2_with fail
      refine (mod_any _ 100 _ (by decide) (by decide)).mono ?_
      rintro e w9 ⟨rfl, rfl⟩
      go_wp2_with fail
      refine (g_crash_any A8.out _).mono ?_
      rintro e w9 ⟨rfl, s9, j9⟩
      obtain ⟨G9, a9, n9, f9⟩ := j9.own F8.out N8.out
      clear j9
      have A9 := Lib.hid a9.weak
      have N9 := Lib.hid n9
      have F9 := Lib.hid f9
      clear a9 n9 f9 A8 N8 F8 c0 c1 c2
      go_wp2_with fail
      go_roundw
      case rel => exact ⟨m + 1, G9, s9, by omega, by go_num, A9.out.more (by omega), N9.out, F9.out⟩
      case measure => simp [intOf]; omega
end Go.Proofs.Ytoiiblopnchljaa
