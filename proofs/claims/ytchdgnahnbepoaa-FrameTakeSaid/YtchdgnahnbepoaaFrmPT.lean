/-
  The walks of FramePut and FrameTake.
-/
import Derived.Test.YtchdgnahnbepoaaFrmLaws
import Derived.Test.YtchdgnahnbepoaaFrmRT
namespace Go.Proofs.Ytchdgnahnbepoaa
open Go.ChangeShapes Go.WideShapes Go.ChangeAt Go.RowKit

set_option maxHeartbeats 1000000 in
theorem FramePut_walk (a0 : Option Addr) (len0 cap0 : Nat) (z0 : List Int) (a1 : Int) (a2 : Option Addr) (len2 cap2 : Nat) (z2 : List Int) (w : World) (w0 : IsRow .u8 w a0 len0 cap0 z0) (_w1 : (Lit.int .i64 a1).wf = true) (w2 : IsRow .u8 w a2 len2 cap2 z2) (s0 : cap0 ≤ 1048576) (_s2 : cap2 ≤ 1048576) :
    Calls Try.prog 3 #[.slice a0 len0 cap0, .int .i64 a1, .slice a2 len2 cap2] w fun e w' => e = .returned (.bool true) ∧ Below w.heap.size w w' := by
  obtain ⟨l, hl, -, hc0, hn, hr⟩ := w0.open_
  obtain ⟨p, hp, -, -, hn2, hr2⟩ := w2.open_
  have HL := Lib.hid hl
  have HN := Lib.hid hn
  have HR := Lib.hid hr
  have HP := Lib.hid hp
  have HN2 := Lib.hid hn2
  have HR2 := Lib.hid hr2
  clear w0 w2 hl hn hr hp hn2 hr2
  obtain ⟨r, hr⟩ : ∃ r, r = l ++ putN a1 p := ⟨_, rfl⟩
  have HRR := Lib.hid hr
  have hput : ∀ W : World, Fr No w W → Calls Try.prog 13 #[.slice a0 len0 cap0, .int .i64 a1, .slice a2 len2 cap2] W (PutTo W r) := by
    intro W hW
    have e1 := HR.out.frNo hW (Nat.le_refl _)
    have e2 := HR2.out.frNo hW (Nat.le_refl _)
    rw [hr]
    by_cases hs : len2 ≤ 65536
    · exact put_short _ _ _ _ _ _ _ l p W w.heap.size HN.out HL.out e1 HN2.out HP.out e2 hW.size (by omega) hs
    · have h0 : putN a1 p = [] := by unfold putN; rw [if_neg (by rw [HP.out]; exact hs)]
      rw [h0, List.append_nil]
      exact put_long _ _ _ _ _ _ _ l W w.heap.size HN.out HL.out e1 (by omega) (by omega)
  have hrput : ∀ W : World, Fr No w W → Calls Try.prog 14 #[.slice a0 len0 cap0, .int .i64 a1, .slice a2 len2 cap2] W (PutTo W r) := by
    intro W hW
    have e1 := HR.out.frNo hW (Nat.le_refl _)
    have e2 := HR2.out.frNo hW (Nat.le_refl _)
    rw [hr]
    by_cases hs : len2 ≤ 65536
    · exact rput_short _ _ _ _ _ _ _ l p W w.heap.size HN.out HL.out e1 HN2.out HP.out e2 hW.size (by omega) hs
    · have h0 : putN a1 p = [] := by unfold putN; rw [if_neg (by rw [HP.out]; exact hs)]
      rw [h0, List.append_nil]
      exact rput_long _ _ _ _ _ _ _ l W w.heap.size HN.out HL.out e1 hW.size (by omega) (by omega)
  have CP := Lib.hid hput
  have CR := Lib.hid hrput
  clear hr hput hrput
  go_enter Try.func3, Try.ntmps3
  go_wp2_with fail
  refine (awake3_any _).mono ?_
  rintro e w1 ⟨rfl, f1⟩
  have F1 := Lib.hid f1
  clear f1
  go_wp2_with fail
  refine (CP.out _ F1.out).mono ?_
  rintro e w2 ⟨A2, c2, rfl, o2, f2⟩
  have O2 := Lib.hid o2
  have F2 := Lib.hid (F1.out.transNo f2)
  clear o2 f2
  go_wp2_with fail
  refine (CR.out _ F2.out).mono ?_
  rintro e w3 ⟨A3, c3, rfl, o3, f3⟩
  have O3 := Lib.hid o3
  have P3 := Lib.hid (O2.out.frNo f3)
  have F3 := Lib.hid (F2.out.transNo f3)
  clear o3 f3
  go_wp2_with fail
  refine (same_bytes _ _ _ _ _ _ r r _ _ _ P3.out.len.2 rfl P3.out.rd O3.out.len.2 rfl O3.out.rd).mono ?_
  rintro e w4 ⟨rfl, rfl⟩
  go_wp2_with fail
  go_ret
  exact ⟨ret_bool (by simp), F3.out.belowNo⟩

set_option maxHeartbeats 2000000 in
theorem FrameTake_walk (a0 : Option Addr) (len0 cap0 : Nat) (z0 : List Int) (a1 : Int) (a2 : Option Addr) (len2 cap2 : Nat) (z2 : List Int) (a3 : Int) (a4 : Int) (w : World) (w0 : IsRow .u8 w a0 len0 cap0 z0) (_w1 : (Lit.int .i64 a1).wf = true) (w2 : IsRow .u8 w a2 len2 cap2 z2) (_w3 : (Lit.int .i64 a3).wf = true) (w4 : (Lit.int .u8 a4).wf = true) (_s0 : cap0 * 1 ≤ 140737488351232) (_s2 : cap2 * 1 ≤ 140737488351232) :
    Calls Try.prog 4 #[.slice a0 len0 cap0, .int .i64 a1, .slice a2 len2 cap2, .int .i64 a3, .int .u8 a4] w fun e w' => e = .returned (.bool true) ∧ Below w.heap.size w w' := by
  obtain ⟨l, hl, -, hc0, hn, hr⟩ := w0.open_
  obtain ⟨p, hp, -, -, hn2, hr2⟩ := w2.open_
  have b4 := bounds_u8 w4
  obtain ⟨c, rfl⟩ : ∃ c : UInt8, a4 = (c.toNat : Int) := ⟨UInt8.ofNat a4.toNat, by rw [UInt8.toNat_ofNat']; omega⟩
  have HL := Lib.hid hl
  have HN := Lib.hid hn
  have HR := Lib.hid hr
  have HP := Lib.hid hp
  have HN2 := Lib.hid hn2
  have HR2 := Lib.hid hr2
  clear w0 w2 w4 hl hn hr hp hn2 hr2 b4
  by_cases h0 : len0 ≤ 400
  · by_cases h2 : len2 ≤ 300
    · have t0 : decide ((400 : Int) < (len0 : Int)) = false := by simp; omega
      have t2 : decide ((300 : Int) < (len2 : Int)) = false := by simp; omega
      have hpl : p.length ≤ 65536 := by rw [HP.out]; omega
      have hlen := putN_len a1 p hpl
      rw [HP.out] at hlen
      generalize hP : putN a1 p = P at *
      have HPP := Lib.hid hP
      clear hP
      obtain ⟨m, hm⟩ : ∃ m, m = P.length := ⟨_, rfl⟩
      rw [← hm] at hlen
      have HM := Lib.hid hm
      clear hm
      have hrm1 := Int.lt_tmod_of_pos a3 (b := (m : Int)) (by omega)
      have hrm2 := Int.tmod_lt_of_pos a3 (b := (m : Int)) (by omega)
      obtain ⟨q, hq⟩ : ∃ q : Nat, (a3.tmod (m : Int) + (m : Int)) % (m : Int) = (q : Int) :=
        ⟨((a3.tmod (m : Int) + (m : Int)) % (m : Int)).toNat, (Int.toNat_of_nonneg (Int.emod_nonneg _ (by omega))).symm⟩
      have hqm : q < m := by
        have := Int.emod_lt_of_pos (a3.tmod (m : Int) + (m : Int)) (b := (m : Int)) (by omega)
        omega
      have hm0 : ((m : Int) == 0) = false := by simp; omega
      go_enter Try.func4, Try.ntmps4
      go_wp2_with fail
      refine (rput_short none 0 0 a1 a2 len2 cap2 [] p _ w.heap.size (fun _ => rfl) rfl Rd.nil HN2.out HP.out HR2.out (Nat.le_refl _) (by omega) (by omega)).mono ?_
      rintro e w1 ⟨A1, c1, rfl, o1, f1⟩
      rw [List.nil_append, HPP.out, ← HM.out] at o1
      rw [List.nil_append, HPP.out, ← HM.out]
      have hcap : m ≤ c1 := o1.cap.1
      obtain ⟨b, rfl, hb1, hb2, hcell⟩ := own_head o1 (by omega)
      obtain ⟨hc1, hf1⟩ := hcell q (by rw [List.length_map, ← HM.out]; exact hqm)
      simp only [List.getElem_map] at hc1
      obtain ⟨o2, f2⟩ := own_stored o1 q (bv c)
      rw [← List.map_set] at o2
      have O2 := Lib.hid o2
      have F2 := Lib.hid (f1.transNew f2 fun i hi => hi)
      have HSL : Hid ((P.set q c).length = m) := by
        show (P.set q c).length = m
        rw [List.length_set]
        exact HM.out.symm
      clear o1 f1 o2 f2 hcell hb1 hb2
      generalize hQ : P.set q c = Q at *
      clear hQ
      obtain ⟨f, hf⟩ : ∃ f, takeFr a1 l = f := ⟨_, rfl⟩
      obtain ⟨g, hg⟩ : ∃ g, takeFr a1 Q = g := ⟨_, rfl⟩
      have HF := Lib.hid hf
      have HG := Lib.hid hg
      clear hf hg
      go_wp2_with fail
      refine (frtake_any a0 len0 cap0 a1 l _ w.heap.size HN.out HL.out (HR.out.frNo F2.out (Nat.le_refl _)) (by omega) hc0).mono ?_
      rintro e w3 ⟨A3, c3, rfl, o3, f3⟩
      rw [HF.out] at o3 ⊢
      have O3 := Lib.hid o3
      have F3 := Lib.hid (F2.out.transNo f3)
      have Q3 := Lib.hid (O2.out.frNo f3)
      clear o3 f3 O2 hc1 hf1 F2
      go_wp2_with fail
      refine (rfrtake_any a0 len0 cap0 a1 l _ w.heap.size HN.out HL.out (HR.out.frNo F3.out (Nat.le_refl _)) F3.out.size (by omega) hc0).mono ?_
      rintro e w4 ⟨A4, c4, rfl, o4, f4⟩
      rw [HF.out] at o4 ⊢
      have O4 := Lib.hid o4
      have P4 := Lib.hid (O3.out.frNo f4)
      have F4 := Lib.hid (F3.out.transNo f4)
      have Q4 := Lib.hid (Q3.out.frNo f4)
      clear o4 f4 O3 F3 Q3
      go_wp2_with fail
      refine (frtake_any _ m c1 a1 Q _ _ (fun h => by cases h) HSL.out Q4.out.rd (by omega) hcap).mono ?_
      rintro e w5 ⟨A5, c5, rfl, o5, f5⟩
      rw [HG.out] at o5 ⊢
      have O5 := Lib.hid o5
      have R5 := Lib.hid (O4.out.frNo f5)
      have P5 := Lib.hid (P4.out.frNo f5)
      have F5 := Lib.hid (F4.out.transNo f5)
      have Q5 := Lib.hid (Q4.out.frNo f5)
      clear o5 f5 O4 P4 F4 Q4
      go_wp2_with fail
      refine (rfrtake_any _ m c1 a1 Q _ _ (fun h => by cases h) HSL.out Q5.out.rd (Nat.le_refl _) (by omega) hcap).mono ?_
      rintro e w6 ⟨A6, c6, rfl, o6, f6⟩
      rw [HG.out] at o6 ⊢
      have O6 := Lib.hid o6
      have S6 := Lib.hid (O5.out.frNo f6)
      have R6 := Lib.hid (R5.out.frNo f6)
      have P6 := Lib.hid (P5.out.frNo f6)
      have F6 := Lib.hid (F5.out.transNo f6)
      clear o6 f6 O5 R5 P5 F5 Q5
      have hs1 : (f.p == f.p) = true := by simp
      have hs2 : (g.p == g.p) = true := by simp
      go_wp2_with fail
      refine (awake3_any _).mono ?_
      rintro e w7 ⟨rfl, f7⟩
      have O7 := Lib.hid (O6.out.frNo f7)
      have S7 := Lib.hid (S6.out.frNo f7)
      have R7 := Lib.hid (R6.out.frNo f7)
      have P7 := Lib.hid (P6.out.frNo f7)
      have F7 := Lib.hid (F6.out.transNo f7)
      clear f7 O6 S6 R6 P6 F6
      go_wp2_with fail
      refine (same_bytes _ _ _ _ _ _ f.p f.p _ _ _ P7.out.len.2 rfl P7.out.rd R7.out.len.2 rfl R7.out.rd).mono ?_
      rintro e w8 ⟨rfl, rfl⟩
      go_wp2_with fail
      refine (same_bytes _ _ _ _ _ _ g.p g.p _ _ _ S7.out.len.2 rfl S7.out.rd O7.out.len.2 rfl O7.out.rd).mono ?_
      rintro e w9 ⟨rfl, rfl⟩
      go_wp2_with fail
      go_ret
      exact ⟨ret_bool (by simp), F7.out.belowNo⟩
    · have t0 : decide ((400 : Int) < (len0 : Int)) = false := by simp; omega
      have t2 : decide ((300 : Int) < (len2 : Int)) = true := by simp; omega
      go_enter Try.func4, Try.ntmps4
      go_wp2_with fail
      refine (awake3_any _).mono ?_
      rintro e w3 ⟨rfl, f3⟩
      have F3 := Lib.hid f3
      clear f3
      go_wp2_with fail
      go_ret
      exact ⟨ret_bool (by simp), F3.out.belowNo⟩
  · have t0 : decide ((400 : Int) < (len0 : Int)) = true := by simp; omega
    go_enter Try.func4, Try.ntmps4
    go_wp2_with fail
    refine (awake3_any _).mono ?_
    rintro e w3 ⟨rfl, f3⟩
    have F3 := Lib.hid f3
    clear f3
    go_wp2_with fail
    go_ret
    exact ⟨ret_bool (by simp), F3.out.belowNo⟩
end Go.Proofs.Ytchdgnahnbepoaa
