/-
  The walk of JournalReopens.
-/
import Derived.Test.YtoiiblopnchljaaJrnK
import Derived.Test.YtoiiblopnchljaaJrnM
import Derived.Test.YtoiiblopnchljaaJrnL
import Derived.Test.YtoiiblopnchljaaSame
namespace Go.Proofs.Ytoiiblopnchljaa
open Go.ChangeShapes Go.WideShapes Go.ChangeAt Go.RowKit
set_option linter.unusedVariables false

/-- A grown journal that was cut. -/
theorem grown_cut (p : List Int) (hp : p.length ≤ 30) (K : Nat) (hK : K ≤ p.length) :
    cutX (gst p) (K : Int) = 0 ∧ cutS (gst p) (K : Int) = gst (p.take K) ∧ (gxs p ++ putN 8 (recC (K : Int))).length ≤ 10000 ∧ playJ (gxs p ++ putN 8 (recC (K : Int))) = ((gxs p ++ putN 8 (recC (K : Int))).length, gst (p.take K)) := by
  have hl : (gst p).log.length = p.length := gl_len p
  have h0 : cutX (gst p) (K : Int) = 0 := by
    unfold cutX
    rw [if_neg (by rw [hl]; omega)]
  have h1 : cutS (gst p) (K : Int) = gst (p.take K) := by
    unfold cutS
    rw [if_pos h0]
    show (⟨1, 0, (gl p).take ((K : Int)).toNat⟩ : Js) = ⟨1, 0, gl (p.take K)⟩
    rw [Int.toNat_natCast]
    unfold gl
    rw [List.map_take]
  have hr := recC_len (s := gst p) (by rw [hl]; omega) h0
  have hp2 := putN_lenP 8 (recC (K : Int)) (by omega)
  have hx := gxs_len p
  refine ⟨h0, h1, by rw [List.length_append]; omega, ?_⟩
  exact ((grown_good p (by omega)).snoc (recC (K : Int)) (by omega) (by rw [replay_cut _ _ (by rw [hl]; omega) h0, h1])).play

set_option maxRecDepth 100000 in
set_option maxHeartbeats 4000000 in
theorem JournalReopens_walk (a0 : Option Addr) (len0 cap0 : Nat) (z0 : List Int) (a1 : Int) (w : World) (w0 : IsRow .i64 w a0 len0 cap0 z0) (w1 : (Lit.int .i64 a1).wf = true) (s0 : cap0 * 8 ≤ 140737488351232) :
    Calls Try.prog 9 #[.slice a0 len0 cap0, .int .i64 a1] w fun e w' => e = .returned (.bool true) ∧ Below w.heap.size w w' := by
  obtain ⟨q, hq, hm, hc, hn, hr, -⟩ := w0.openI
  have hgr := grown_any a0 len0 cap0 q 0 w w.heap.size hn hq hr (Nat.le_refl _) hm
  have hq30 : (q.take 30).length ≤ 30 := by rw [List.length_take]; omega
  generalize q.take 30 = p at *
  clear w0 hq hn hr w1
  obtain ⟨K, hK⟩ : ∃ K : Nat, a1 % ((p.length : Int) + 1) = (K : Int) := ⟨(a1 % ((p.length : Int) + 1)).toNat, by have := Int.emod_nonneg a1 (b := (p.length : Int) + 1) (by omega); omega⟩
  have hKp : K ≤ p.length := by have := Int.emod_lt_of_pos a1 (b := (p.length : Int) + 1) (by omega); omega
  have hmo := fun W => mod_any a1 ((p.length : Int) + 1) W (by omega) (by omega)
  rw [hK] at hmo
  obtain ⟨u1, u2, u3, u4⟩ := grown_cut p hq30 K hKp
  clear hK
  have HGR := Lib.hid hgr
  have HMO := Lib.hid hmo
  have U1 := Lib.hid u1
  have U2 := Lib.hid u2
  have U3 := Lib.hid u3
  have U4 := Lib.hid u4
  have HKP := Lib.hid hKp
  clear hgr hmo u1 u2 u3 u4 hKp
  go_enter Try.func9, Try.ntmps9
  go_wp2_with fail
  refine HGR.out.mono ?_
  rintro e w1 ⟨j, d, F, Ao, co, ns, rfl, g1⟩
  have hcu := j_Cut g1.jn (K : Int) (by rw [show (gst p).log.length = p.length from gl_len p]; omega) (by have := gxs_len p; omega)
  rw [U1.out, U2.out, if_pos rfl] at hcu
  have hjt := fun w9 ys m s (hj : JTo w1 F j d ys m s w9) => g1.jto (w' := w9) hj
  clear g1
  have HU3 := U3.out
  have HU4 := U4.out
  clear U3 U4
  generalize gxs p ++ putN 8 (recC (K : Int)) = X at *
  have HCU := Lib.hid hcu
  have HJT := Lib.hid hjt
  clear hcu hjt
  go_wp2_with fail
  refine (HMO.out _).mono ?_
  rintro e w2 ⟨rfl, rfl⟩
  go_wp2_with fail
  refine HCU.out.mono ?_
  rintro e w2 ⟨rfl, j2⟩
  obtain ⟨F2, a2, o2, ap2, n2, f2⟩ := HJT.out _ _ _ _ j2
  clear j2 HCU HJT
  have A2 := Lib.hid a2
  have O2 := Lib.hid o2
  have AP2 := Lib.hid ap2
  have N2 := Lib.hid n2
  have F2 := Lib.hid f2
  clear a2 o2 ap2 n2 f2
  go_wp2_with fail
  refine (j_bytes A2.out).mono ?_
  rintro e w3 ⟨A3, c3, rfl, o3, f3⟩
  have hop := j_open A3 X.length c3 X w3 w3.heap.size o3.len.2 o3.rd rfl (Nat.le_refl _) (by omega)
  rw [HU4] at hop
  simp only [List.take_length, Nat.min_self] at hop
  have A4 := Lib.hid (A2.out.frNo f3)
  have O4 := Lib.hid (O2.out.frNo f3)
  have F4 := Lib.hid (F2.out.transNo f3)
  clear f3 A2 O2 F2 o3 HU4
  have HOP := Lib.hid hop
  clear hop
  go_wp2_with fail
  refine HOP.out.mono ?_
  rintro e w5 ⟨i, d5, G, rfl, b5, n5, f5⟩
  have A5 := Lib.hid (A4.out.frNo f5)
  have O5 := Lib.hid (O4.out.frNo f5)
  have F5 := Lib.hid (F4.out.transNo f5)
  clear f5 A4 O4 F4 n5 HOP
  have B5 := Lib.hid b5
  clear b5
  go_wp2_with fail
  refine (awake8_any _).mono ?_
  rintro e w6 ⟨rfl, f6⟩
  have A6 := Lib.hid (A5.out.frNo f6)
  have O6 := Lib.hid (O5.out.frNo f6)
  have F6 := Lib.hid (F5.out.transNo f6)
  have B6 := Lib.hid (B5.out.frNo f6)
  clear f6 A5 O5 F5 B5
  have hli : (gst (p.take K)).log.length = K := by show (gl (p.take K)).length = K; rw [gl_len, List.length_take]; have := HKP.out; omega
  have HLI := Lib.hid hli
  clear hli
  go_wp2_with fail
  refine (j_term B6.out).mono ?_
  rintro e w7 ⟨rfl, rfl⟩
  go_wp2_with fail
  refine (j_term A6.out).mono ?_
  rintro e w7 ⟨rfl, rfl⟩
  go_wp2_with fail
  refine (j_vote B6.out).mono ?_
  rintro e w7 ⟨rfl, rfl⟩
  go_wp2_with fail
  refine (j_vote A6.out).mono ?_
  rintro e w7 ⟨rfl, rfl⟩
  go_wp2_with fail
  refine (j_len B6.out).mono ?_
  rintro e w7 ⟨rfl, rfl⟩
  rw [HLI.out]
  go_wp2_with fail
  refine (j_len A6.out).mono ?_
  rintro e w7 ⟨rfl, rfl⟩
  rw [HLI.out]
  go_wp2_with fail
  refine (j_bytes B6.out).mono ?_
  rintro e w7 ⟨A7, c7, rfl, o7, f7⟩
  have A8 := Lib.hid (A6.out.frNo f7)
  have O8 := Lib.hid (O6.out.frNo f7)
  have F8 := Lib.hid (F6.out.transNo f7)
  have B8 := Lib.hid (B6.out.frNo f7)
  clear f7 A6 O6 F6 B6
  have O7 := Lib.hid o7
  clear o7
  go_wp2_with fail
  refine (j_bytes A8.out).mono ?_
  rintro e w9 ⟨A9, c9, rfl, o9, f9⟩
  have hsb := same_bytes A7 A9 X.length c7 X.length c9 X X _ _ w9 (O7.out.len).2 rfl (O7.out.frNo f9).rd o9.len.2 rfl o9.rd
  have O10 := Lib.hid (O8.out.frNo f9)
  have F10 := Lib.hid (F8.out.transNo f9)
  have B10 := Lib.hid (B8.out.frNo f9)
  clear f9 A8 O8 F8 B8 o9
  rw [beq_self_eq_true] at hsb
  have HSB := Lib.hid hsb
  clear hsb
  go_wp2_with fail
  refine HSB.out.mono ?_
  rintro e w11 ⟨rfl, rfl⟩
  go_wp2_with fail
  go_loopw [10] (fun o wr => ∃ k : Nat, k ≤ K ∧ o = .int .i64 k ∧ Fr No w9 wr) (fun o _ => K - (intOf o).toNat)
  case atStart => exact ⟨0, Nat.zero_le _, rfl, Fr.refl _ _⟩
  case round =>
    obtain ⟨k, hk, rfl, f5⟩ := hrel
    have B11 := Lib.hid (B10.out.frNo f5)
    have O11 := Lib.hid (O10.out.frNo f5)
    have F11 := Lib.hid (F10.out.transNo f5)
    have HF5 := Lib.hid f5
    clear f5
    by_cases hki : k < K
    · have b3 : decide (k < K) = true := by simp; omega
      have hkp : k < p.length := by have := HKP.out; omega
      obtain ⟨x, hx⟩ : ∃ x, (gl p)[k]? = some x := ⟨_, List.getElem?_eq_getElem (by rw [gl_len]; exact hkp)⟩
      have hx2 : (gst (p.take K)).log[k]? = some x := by
        show (gl (p.take K))[k]? = some x
        rw [← hx]
        unfold gl
        rw [List.map_take, List.getElem?_take, if_pos hki]
      obtain ⟨b, rfl, hb, hcs⟩ := O11.out.lgAt hkp hx
      have hat := j_at B11.out (k : Int)
      rw [atJ_some hx2] at hat
      have hN := fun W => lg_neq x x W
      simp only [decide_true, Bool.not_true] at hN
      obtain ⟨t, ⟨kd, tick, te, ce, ot, ep, fr, un, n⟩⟩ := x
      unfold Lg.v at hat hN
      unfold LgCells at hcs
      simp only at hat hN hcs
      have hG := fun (u v : Operand) (V : World) => lg_guard .neq u v #[.int .i64 t, .int .i64 kd, .int .i64 tick, .int .i64 te, .int .i64 ce, .int .i64 ot, .int .i64 ep, .int .i64 fr, .int .i64 un, .int .i64 n] #[.int .i64 t, .int .i64 kd, .int .i64 tick, .int .i64 te, .int .i64 ce, .int .i64 ot, .int .i64 ep, .int .i64 fr, .int .i64 un, .int .i64 n] V
      clear hx hx2
      have HAT := Lib.hid hat
      have HCS := Lib.hid hcs
      clear hat hcs
      go_wp2_with fail
      refine HAT.out.mono ?_
      rintro e w6 ⟨rfl, f6⟩
      have hcs6 := HCS.out _ (f6.alloc (.cells #[.int .i64 t, .int .i64 kd, .int .i64 tick, .int .i64 te, .int .i64 ce, .int .i64 ot, .int .i64 ep, .int .i64 fr, .int .i64 un, .int .i64 n] TLg))
      have F6 := Lib.hid (HF5.out.transNo f6)
      clear f6
      obtain ⟨c0, c1, c2, c3, c4, c5, c6, c7, c8, c9⟩ := hcs6
      have hkp2 : (k : Int) < (p.length : Int) := by omega
      go_wp2_with fail
      go_quiet (fail)
      go_wp2_with fail
      go_roundw
      case rel => exact ⟨k + 1, by omega, by go_num, (F6.out.alloc _).drewN _⟩
      case measure => simp [intOf]; omega
    · have b3 : decide (k < K) = false := by simp; omega
      go_wp2_with fail
      go_ret
      exact ⟨rfl, (F11.out).belowNo⟩
end Go.Proofs.Ytoiiblopnchljaa
