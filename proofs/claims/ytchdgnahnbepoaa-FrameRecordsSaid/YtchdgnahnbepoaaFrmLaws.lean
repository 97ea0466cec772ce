/-
  The sanity check of the frame's statements, and the walks of those on one frame.
-/
import Derived.Test.YtchdgnahnbepoaaFrmT
import Derived.Test.YtchdgnahnbepoaaSame
namespace Go.Proofs.Ytchdgnahnbepoaa
open Go.ChangeShapes Go.WideShapes Go.ChangeAt Go.RowKit

theorem putN_len (key : Int) (p : List UInt8) (h : p.length ≤ 65536) : 9 + p.length ≤ (putN key p).length ∧ (putN key p).length ≤ 18 + p.length := by
  unfold putN headN
  rw [if_pos h]
  have h1 := encN_len10 (codeN (p.length : Int)) (codeN_lt _ (by omega) (by omega))
  have h2 := encN_pos (codeN (p.length : Int))
  simp only [List.length_append, leN_length]
  omega
theorem putN_57 : (putN 5 [7]).length = 10 := by
  unfold putN headN
  rw [if_pos (by decide)]
  have : encN (codeN (([7] : List UInt8).length : Int)) = [2] := by
    rw [show codeN (([7] : List UInt8).length : Int) = 2 from by decide, encN_lt 2 (by decide)]
    rfl
  rw [this]
  simp [leN_length]

set_option maxHeartbeats 1000000 in
theorem awake3_any (w : World) :
    Calls Try.prog 11 #[] w fun e w' => e = .returned (.bool true) ∧ Fr No w w' := by
  have hl := putN_57
  have ht := takeFr_put 5 [7] [] (by decide)
  have hc := takeFr_cut 5 [7] (by decide) 9 (by rw [putN_57]; decide)
  rw [List.append_nil] at ht
  generalize hP : putN 5 [7] = P at *
  rw [hl] at ht
  have HP := Lib.hid hP
  have HL := Lib.hid hl
  have HT := Lib.hid ht
  have HC := Lib.hid hc
  have HL9 : Hid ((P.take 9).length = 9) := by
    show (P.take 9).length = 9
    rw [List.length_take, HL.out]
    decide
  clear hl ht hc hP
  go_enter Try.func11, Try.ntmps11
  go_wp2_with fail
  have R1 := Lib.hid (Rd.new w [.int .u8 7] 5 (xs := [7].map bv) rfl)
  have F1 := Lib.hid (fr_alloc w (.cells #[.int .u8 7] 5))
  have hs1 : (w.alloc (.cells #[.int .u8 7] 5)).heap.size = w.heap.size + 1 := by simp
  generalize w.alloc (.cells #[.int .u8 7] 5) = w1 at *
  refine (put_short none 0 0 5 (some ⟨w.heap.size, 0, none⟩) 1 1 [] [7] _ (w.heap.size + 1) (fun _ => rfl) rfl Rd.nil (fun h => by cases h) rfl R1.out (by omega) (by omega) (by omega)).mono ?_
  rintro e w2 ⟨A2, c2, rfl, o2, f2⟩
  rw [List.nil_append, HP.out, HL.out] at o2
  rw [List.nil_append, HP.out, HL.out]
  have O2 := Lib.hid o2
  have hcap : 10 ≤ c2 := o2.cap.1
  have F2 := Lib.hid (F1.out.transNo f2)
  clear o2 f2 hs1 F1 R1
  go_wp2_with fail
  refine (frtake_any A2 10 c2 5 P _ _ O2.out.len.2 HL.out O2.out.rd (by omega) hcap).mono ?_
  rintro e w3 ⟨A3, c3, rfl, o3, f3⟩
  rw [HT.out] at o3 ⊢
  have O3 := Lib.hid o3
  have P3 := Lib.hid (O2.out.frNo f3)
  have F3 := Lib.hid (F2.out.transNo f3)
  clear o3 f3 O2 F2
  simp only [List.length_singleton] at O3 ⊢
  go_wp2_with fail
  refine (frtake_any A2 9 c2 5 (P.take 9) _ _ (fun h => by have := P3.out.len.2 h; omega) HL9.out (by have := (P3.out.cut (k := 9) (by omega)).rd; rwa [← List.map_take] at this) (by omega) (by omega)).mono ?_
  rintro e w4 ⟨A4, c4, rfl, o4, f4⟩
  rw [HC.out] at o4 ⊢
  have O4 := Lib.hid (O3.out.frNo f4)
  have F4 := Lib.hid (F3.out.transNo f4)
  clear o4 f4 O3 P3 F3
  obtain ⟨b, rfl, hb1, hb2, hcell⟩ := own_head O4.out (by omega)
  have hc0 := hcell 0 (by decide)
  simp only [List.map_cons, List.map_nil, List.getElem_cons_zero] at hc0
  obtain ⟨hc1, hc2⟩ := hc0
  have hc3 : w4.cell? ⟨b, 0, none⟩ = some (.int .u8 7) := hc1
  clear hcell hc1 hc2
  simp only [frmE]
  go_wp2_with fail
  go_ret
  exact ⟨ret_bool rfl, F4.out⟩

set_option maxHeartbeats 1000000 in
theorem FrameKeys_walk (a0 : Int) (a1 : Int) (a2 : Option Addr) (len2 cap2 : Nat) (z2 : List Int) (w : World) (w0 : (Lit.int .i64 a0).wf = true) (w1 : (Lit.int .i64 a1).wf = true) (w2 : IsRow .u8 w a2 len2 cap2 z2) (_s2 : cap2 * 1 ≤ 140737488351232) :
    Calls Try.prog 8 #[.int .i64 a0, .int .i64 a1, .slice a2 len2 cap2] w fun e w' => e = .returned (.bool true) ∧ Below w.heap.size w w' := by
  have b0 := bounds_i64 w0
  have b1 := bounds_i64 w1
  obtain ⟨p, hp, -, -, hn, hr⟩ := w2.open_
  have HP := Lib.hid hp
  have HN := Lib.hid hn
  have HR := Lib.hid hr
  clear w0 w1 w2 hp hn hr
  by_cases hs : len2 ≤ 300
  · have ht : decide ((300 : Int) < (len2 : Int)) = false := by simp; omega
    have hpl : p.length ≤ 65536 := by rw [HP.out]; omega
    have hlen := putN_len a0 p hpl
    have TK : Hid (takeFr a1 (putN a0 p) = if a0 = a1 then ⟨p, (putN a0 p).length, 0⟩ else frmE 18) := by
      show takeFr a1 (putN a0 p) = if a0 = a1 then ⟨p, (putN a0 p).length, 0⟩ else frmE 18
      by_cases h : a0 = a1
      · subst h
        rw [if_pos rfl]
        have := takeFr_put a0 p [] hpl
        rwa [List.append_nil] at this
      · rw [if_neg h]
        exact takeFr_key a0 a1 p hpl (by omega) (by omega) (by omega) (by omega) h
    rw [HP.out] at hlen
    generalize hP : putN a0 p = P at *
    have HPP := Lib.hid hP
    clear hP
    go_enter Try.func8, Try.ntmps8
    go_wp2_with fail
    refine (put_short none 0 0 a0 a2 len2 cap2 [] p _ w.heap.size (fun _ => rfl) rfl Rd.nil HN.out HP.out HR.out (Nat.le_refl _) (by omega) (by omega)).mono ?_
    rintro e w1 ⟨A1, c1, rfl, o1, f1⟩
    rw [List.nil_append, HPP.out] at o1
    rw [List.nil_append, HPP.out]
    have O1 := Lib.hid o1
    have hcap : P.length ≤ c1 := o1.cap.1
    have F1 := Lib.hid f1
    clear o1 f1
    go_wp2_with fail
    refine (frtake_any A1 P.length c1 a1 P _ _ O1.out.len.2 rfl O1.out.rd (by omega) hcap).mono ?_
    rintro e w2 ⟨A2, c2, rfl, o2, f2⟩
    have F2 := Lib.hid (F1.out.transNo f2)
    clear o2 f2 O1 F1
    by_cases h : a0 = a1
    · rw [TK.out, if_pos h]
      have t1 : (a0 == a1) = true := by simpa using h
      clear h
      go_wp2_with fail
      refine (awake3_any _).mono ?_
      rintro e w3 ⟨rfl, f3⟩
      have F3 := Lib.hid (F2.out.transNo f3)
      clear f3
      go_wp2_with fail
      go_ret
      exact ⟨ret_bool (by simp), F3.out.belowNo⟩
    · rw [TK.out, if_neg h]
      have t1 : (a0 == a1) = false := by simpa using h
      clear h
      simp only [frmE]
      go_wp2_with fail
      refine (awake3_any _).mono ?_
      rintro e w3 ⟨rfl, f3⟩
      have F3 := Lib.hid (F2.out.transNo f3)
      clear f3
      go_wp2_with fail
      go_ret
      exact ⟨ret_bool (by simp), F3.out.belowNo⟩
  · have ht : decide ((300 : Int) < (len2 : Int)) = true := by simp; omega
    go_enter Try.func8, Try.ntmps8
    go_wp2_with fail
    refine (awake3_any _).mono ?_
    rintro e w3 ⟨rfl, f3⟩
    have F3 := Lib.hid f3
    clear f3
    go_wp2_with fail
    go_ret
    exact ⟨ret_bool (by simp), F3.out.belowNo⟩

set_option maxHeartbeats 1000000 in
theorem FrameCut_walk (a0 : Int) (a1 : Option Addr) (len1 cap1 : Nat) (z1 : List Int) (a2 : Int) (w : World) (_w0 : (Lit.int .i64 a0).wf = true) (w1 : IsRow .u8 w a1 len1 cap1 z1) (_w2 : (Lit.int .i64 a2).wf = true) (_s1 : cap1 * 1 ≤ 140737488351232) :
    Calls Try.prog 7 #[.int .i64 a0, .slice a1 len1 cap1, .int .i64 a2] w fun e w' => e = .returned (.bool true) ∧ Below w.heap.size w w' := by
  obtain ⟨p, hp, -, -, hn, hr⟩ := w1.open_
  have HP := Lib.hid hp
  have HN := Lib.hid hn
  have HR := Lib.hid hr
  clear w1 hp hn hr
  by_cases hs : len1 ≤ 300
  · have ht : decide ((300 : Int) < (len1 : Int)) = false := by simp; omega
    have hpl : p.length ≤ 65536 := by rw [HP.out]; omega
    have hlen := putN_len a0 p hpl
    have TK := Lib.hid (takeFr_cut a0 p hpl)
    rw [HP.out] at hlen
    generalize hP : putN a0 p = P at *
    have HPP := Lib.hid hP
    clear hP
    obtain ⟨m, hm⟩ : ∃ m, m = P.length := ⟨_, rfl⟩
    rw [← hm] at hlen
    have HM := Lib.hid hm
    clear hm
    have hrm1 := Int.lt_tmod_of_pos a2 (b := (m : Int)) (by omega)
    have hrm2 := Int.tmod_lt_of_pos a2 (b := (m : Int)) (by omega)
    obtain ⟨kk, hkk⟩ : ∃ kk : Nat, (a2.tmod (m : Int) + (m : Int)) % (m : Int) = (kk : Int) :=
      ⟨((a2.tmod (m : Int) + (m : Int)) % (m : Int)).toNat, (Int.toNat_of_nonneg (Int.emod_nonneg _ (by omega))).symm⟩
    have hkm : kk < m := by
      have := Int.emod_lt_of_pos (a2.tmod (m : Int) + (m : Int)) (b := (m : Int)) (by omega)
      omega
    have hm0 : ((m : Int) == 0) = false := by simp; omega
    go_enter Try.func7, Try.ntmps7
    go_wp2_with fail
    refine (put_short none 0 0 a0 a1 len1 cap1 [] p _ w.heap.size (fun _ => rfl) rfl Rd.nil HN.out HP.out HR.out (Nat.le_refl _) (by omega) (by omega)).mono ?_
    rintro e w1 ⟨A1, c1, rfl, o1, f1⟩
    rw [List.nil_append, HPP.out, ← HM.out] at o1
    rw [List.nil_append, HPP.out, ← HM.out]
    have O1 := Lib.hid o1
    have hcap : m ≤ c1 := o1.cap.1
    have F1 := Lib.hid f1
    have hkc : kk ≤ c1 := by omega
    clear o1 f1
    go_wp2_with fail
    have HTL : Hid ((P.take kk).length = kk) := by
      show (P.take kk).length = kk
      have := HM.out
      rw [List.length_take]
      omega
    refine (frtake_any A1 kk c1 a0 (P.take kk) _ _ (fun h => by have := O1.out.len.2 h; omega) HTL.out (by have := (O1.out.cut (k := kk) (by omega)).rd; rwa [← List.map_take] at this) (by omega) (by omega)).mono ?_
    rintro e w2 ⟨A2, c2, rfl, o2, f2⟩
    rw [TK.out kk (by rw [← HM.out]; exact hkm)]
    have F2 := Lib.hid (F1.out.transNo f2)
    clear o2 f2 O1 F1
    simp only [frmE, List.length_nil]
    go_wp2_with fail
    refine (awake3_any _).mono ?_
    rintro e w3 ⟨rfl, f3⟩
    have F3 := Lib.hid (F2.out.transNo f3)
    clear f3
    go_wp2_with fail
    go_ret
    exact ⟨ret_bool (by simp), F3.out.belowNo⟩
  · have ht : decide ((300 : Int) < (len1 : Int)) = true := by simp; omega
    go_enter Try.func7, Try.ntmps7
    go_wp2_with fail
    refine (awake3_any _).mono ?_
    rintro e w3 ⟨rfl, f3⟩
    have F3 := Lib.hid f3
    clear f3
    go_wp2_with fail
    go_ret
    exact ⟨ret_bool (by simp), F3.out.belowNo⟩
end Go.Proofs.Ytchdgnahnbepoaa
