/-
  The contract of the reference's Take.
-/
import Derived.Test.YtoiiblopnchljaaFrmR
namespace Go.Proofs.Ytoiiblopnchljaa
open Go.ChangeShapes Go.WideShapes Go.ChangeAt Go.RowKit

set_option maxRecDepth 100000 in
set_option maxHeartbeats 2000000 in
theorem rfrtake_any (A : Option Addr) (n c : Nat) (key : Int) (l : List UInt8) (w : World) (B : Nat) (hA : A = none → n = 0) (hl : l.length = n) (hr : Rd w B A (l.map bv)) (hB : B ≤ w.heap.size) (hsz : n ≤ 140737488355328) (hnc : n ≤ c) :
    Calls Try.prog 91 #[.slice A n c, .int .i64 key] w (TakeTo w (takeFr key l)) := by
  obtain ⟨i0, hi0, hz0, hz1, hz2⟩ := info_parts bytes_info
  have HA := Lib.hid hA
  have HL := Lib.hid hl
  have HR := Lib.hid hr
  have HD : Hid (takeFr key l = takeFr key l) := rfl
  unfold takeFr at HD
  clear hA hl hr
  by_cases he : (takN l).e = 0
  · obtain ⟨N, n1, n2, n3, n4, n5, n6⟩ := takN_ok l he
    obtain ⟨k, hk⟩ : ∃ k, k = (takN l).k := ⟨_, rfl⟩
    have hkn : k ≤ n := by rw [hk, n4, ← HL.out]; exact n5
    have hTK : takN l = ⟨N, k, 0⟩ := by
      rcases ht : takN l with ⟨x, y, z⟩
      rw [ht] at n3 he hk
      simp only at n3 he hk
      rw [n3, he, hk]
    have TK := Lib.hid hTK
    clear he n3 n4 n5 n6 hk hTK
    by_cases hN0 : N < 0
    · have HF : Hid (takeFr key l = frmE 18) := by
        show takeFr key l = frmE 18
        unfold takeFr
        rw [TK.out, if_neg (by simp), if_pos hN0]
      rw [HF.out]
      go_enter Try.func91, Try.ntmps91
      go_wp2_with fail
      refine (rtake_any _ _ _ l _ _ HL.out (by unfold maxLen; omega) HR.out).mono ?_
      rintro e w1 ⟨rfl, rfl⟩
      rw [TK.out]
      go_wp2_with fail
      go_ret3
      exact TakeTo.err _ _
    · by_cases hN1 : 65536 < N
      · have HF : Hid (takeFr key l = frmE 2) := by
          show takeFr key l = frmE 2
          unfold takeFr
          rw [TK.out, if_neg (by simp), if_neg hN0, if_pos hN1]
        rw [HF.out]
        go_enter Try.func91, Try.ntmps91
        go_wp2_with fail
        refine (rtake_any _ _ _ l _ _ HL.out (by unfold maxLen; omega) HR.out).mono ?_
        rintro e w1 ⟨rfl, rfl⟩
        rw [TK.out]
        go_wp2_with fail
        go_ret3
        exact TakeTo.err _ _
      · obtain ⟨m, rfl⟩ : ∃ m : Nat, N = (m : Int) := ⟨N.toNat, by omega⟩
        by_cases hsh : (n : Int) - k < 8 + (m : Int)
        · have u2 : decide ((n : Int) - (k : Int) < (m : Int) + 8) = true := by simp; omega
          have u0 : decide ((m : Int) < 0) = false := by simp
          have u1 : decide ((65536 : Int) < (m : Int)) = false := by simp; omega
          have HF : Hid (takeFr key l = frmE 17) := by
            show takeFr key l = frmE 17
            unfold takeFr
            rw [TK.out, if_neg (by simp), if_neg hN0, if_neg hN1, if_pos (by rw [HL.out]; exact hsh)]
          rw [HF.out]
          go_enter Try.func91, Try.ntmps91
          go_wp2_with fail
          refine (rtake_any _ _ _ l _ _ HL.out (by unfold maxLen; omega) HR.out).mono ?_
          rintro e w1 ⟨rfl, rfl⟩
          rw [TK.out]
          go_wp2_with fail
          go_ret3
          exact TakeTo.err _ _
        · have hfit : k + 8 + m ≤ n := by omega
          have hm1 : m ≤ 65536 := by omega
          clear hN0 hN1
          go_enter Try.func91, Try.ntmps91
          go_wp2_with fail
          refine (rtake_any _ _ _ l _ _ HL.out (by unfold maxLen; omega) HR.out).mono ?_
          rintro e w1 ⟨rfl, rfl⟩
          rw [TK.out]
          have u0 : decide ((m : Int) < 0) = false := by simp
          have u1 : decide ((65536 : Int) < (m : Int)) = false := by simp; omega
          have u2 : decide ((n : Int) - (k : Int) < (m : Int) + 8) = false := by simp; omega
          have hlm : k + 8 + m - (k + 8) = m := by omega
          have hk8 : k + 8 ≤ c := by omega
          have hcl : ¬ c = k := by omega
          obtain ⟨b, off, rfl, hbB, hc⟩ := HR.out.at_ (by rw [List.length_map, HL.out]; omega)
          clear hc
          obtain ⟨U, hU⟩ : ∃ U, U = unleN ((l.drop k).take 8) := ⟨_, rfl⟩
          have HU := Lib.hid hU
          obtain ⟨p, hp⟩ : ∃ p, p = (l.drop (k + 8)).take m := ⟨_, rfl⟩
          have HPL : Hid (p.length = m) := by
            show p.length = m
            rw [hp, List.length_take, List.length_drop, HL.out]
            omega
          have HQL : Hid (((l.drop k).take 8).length = 8) := by
            show ((l.drop k).take 8).length = 8
            rw [List.length_take, List.length_drop, HL.out]
            omega
          have hpm : p.length ≤ 65536 := by rw [HPL.out]; exact hm1
          obtain ⟨S0, hS0, hSl⟩ := nat_of_u64 (sumI_lo key p) (sumI_hi key p)
          have HS := Lib.hid hS0
          have HOK : Hid (U = S0 → takeFr key l = ⟨p, k + 8 + m, 0⟩) := by
            show U = S0 → takeFr key l = ⟨p, k + 8 + m, 0⟩
            intro hus
            unfold takeFr
            rw [TK.out, if_neg (by simp), if_neg (by simp only; omega), if_neg (by simp only; omega), if_neg (by simp only; rw [HL.out]; omega)]
            simp only [Int.toNat_natCast]
            rw [← HU.out, ← hp, hS0, if_neg (by rw [hus]; simp)]
          have HNO : Hid (¬ U = S0 → takeFr key l = frmE 18) := by
            show ¬ U = S0 → takeFr key l = frmE 18
            intro hus
            unfold takeFr
            rw [TK.out, if_neg (by simp), if_neg (by simp only; omega), if_neg (by simp only; omega), if_neg (by simp only; rw [HL.out]; omega)]
            simp only [Int.toNat_natCast]
            rw [← HU.out, ← hp, hS0, if_pos (by intro h; exact hus (Int.natCast_inj.1 h))]
          have RQ : Hid (Rd w B (some ⟨b, off + k, none⟩) (((l.drop k).take 8).map bv)) := by
            show Rd w B (some ⟨b, off + k, none⟩) (((l.drop k).take 8).map bv)
            rw [List.map_take, List.map_drop]
            exact (HR.out.drop k).take 8
          have R1 : Hid (Rd w B (some ⟨b, off + (k + 8), none⟩) (p.map bv)) := by
            show Rd w B (some ⟨b, off + (k + 8), none⟩) (p.map bv)
            rw [hp, List.map_take, List.map_drop]
            exact (HR.out.drop (k + 8)).take m
          have R0 : Hid (m = 0 → ∀ A1, Rd w B A1 (p.map bv)) := by
            show m = 0 → ∀ A1, Rd w B A1 (p.map bv)
            intro h0 A1
            have hp0 : p = [] := List.eq_nil_of_length_eq_zero (by rw [HPL.out]; exact h0)
            rw [hp0]
            exact Rd.nil
          have hx1 : (k : Int) + 8 ≤ (c : Int) := by omega
          have hkc : k + 8 + m ≤ c := by omega
          clear hU hp hS0 hm1 TK
          by_cases hcc : c = k + 8
          · obtain rfl : m = 0 := by omega
            subst hcc
            go_wp2_with (at_builtin; refine wpList_append_rd _ rfl (.tmp 35) (.tmp 43) _ rfl 0 5 i0 _ 1 Try.underlying52 hi0 hz0 hz1 hz2 rfl _ 0 [] rfl (Own.made w 5).1 B _ _ _ (p.map bv) rfl ?c1 ?c2 ?c3 (bv_one p) ?c4 ?c5 (Nat.zero_le _) ?_)
            case c2 => exact (R0.out trivial _).frNo (fr_alloc _ _) hB
            case c3 => rw [List.length_map, HPL.out]
            case c4 => unfold maxLen; omega
            case c5 => omega
            intro v2 w2 happ
            obtain ⟨o2, f2⟩ := (Own.made w 5).appendedNew (by simp) rfl (by rw [List.length_map, HPL.out]) happ
            rw [List.nil_append] at o2
            obtain ⟨A2, c2, rfl, n2⟩ := o2.form
            rw [List.length_map] at o2 ⊢
            have O2 := Lib.hid o2
            have F2 := Lib.hid ((fr_alloc w (.cells #[] 5)).transNew f2 fun i hi => hi)
            clear happ o2 f2 n2
            go_wp2_with fail
            go_quiet ((first
              | (go_at_call 95; exact quiet_same (rsum_any _ _ _ _ p _ rfl (by unfold maxLen; omega) (O2.out.rd.drewN _)))
              | (go_at_call 101; exact quiet_same (back_any _ _ ((l.drop k).take 8) _ _ HQL.out ((RQ.out.frNo F2.out hB).drewN _)))))
            rw [HS.out, ← HU.out]
            by_cases hus : U = S0
            · have ht : ((S0 : Int) != (U : Int)) = false := by rw [hus]; simp
              have HUS := Lib.hid hus
              clear hus
              go_wp2_with fail
              go_ret3
              rw [HOK.out HUS.out]
              refine ⟨A2, c2, ?_, O2.out, F2.out.drewN _⟩
              simp [HPL.out]
            · have ht : ((S0 : Int) != (U : Int)) = true := by simp; omega
              have HUS := Lib.hid hus
              clear hus
              go_wp2_with fail
              go_ret3
              rw [HNO.out HUS.out]
              exact ⟨none, 0, rfl, Own.nil _ _ _, F2.out.drewN _⟩
          · go_wp2_with (at_builtin; refine wpList_append_rd _ rfl (.tmp 35) (.tmp 43) _ rfl 0 5 i0 _ 1 Try.underlying52 hi0 hz0 hz1 hz2 rfl _ 0 [] rfl (Own.made w 5).1 B _ _ _ (p.map bv) rfl ?d1 ?d2 ?d3 (bv_one p) ?d4 ?d5 (Nat.zero_le _) ?_)
            case d1 => exact fun h => by cases h
            case d2 => exact R1.out.frNo (fr_alloc _ _) hB
            case d3 => rw [List.length_map, HPL.out]; first | done | omega
            case d4 => unfold maxLen; omega
            case d5 => omega
            intro v2 w2 happ
            obtain ⟨o2, f2⟩ := (Own.made w 5).appendedNew (by simp) rfl (by rw [List.length_map, HPL.out]) happ
            rw [List.nil_append] at o2
            obtain ⟨A2, c2, rfl, n2⟩ := o2.form
            rw [List.length_map] at o2 ⊢
            have O2 := Lib.hid o2
            have F2 := Lib.hid ((fr_alloc w (.cells #[] 5)).transNew f2 fun i hi => hi)
            clear happ o2 f2 n2
            go_wp2_with fail
            go_quiet ((first
              | (go_at_call 95; exact quiet_same (rsum_any _ _ _ _ p _ rfl (by unfold maxLen; omega) (O2.out.rd.drewN _)))
              | (go_at_call 101; exact quiet_same (back_any _ _ ((l.drop k).take 8) _ _ HQL.out ((RQ.out.frNo F2.out hB).drewN _)))))
            rw [HS.out, ← HU.out]
            by_cases hus : U = S0
            · have ht : ((S0 : Int) != (U : Int)) = false := by rw [hus]; simp
              have HUS := Lib.hid hus
              clear hus
              go_wp2_with fail
              go_ret3
              rw [HOK.out HUS.out]
              refine ⟨A2, c2, ?_, O2.out, F2.out.drewN _⟩
              simp [HPL.out]
            · have ht : ((S0 : Int) != (U : Int)) = true := by simp; omega
              have HUS := Lib.hid hus
              clear hus
              go_wp2_with fail
              go_ret3
              rw [HNO.out HUS.out]
              exact ⟨none, 0, rfl, Own.nil _ _ _, F2.out.drewN _⟩
  · have HF : Hid (takeFr key l = frmE (takN l).e) := by
      show takeFr key l = frmE (takN l).e
      unfold takeFr
      rw [if_pos he]
    rw [HF.out]
    have hz : (takN l).n = 0 ∧ (takN l).k = 0 := by
      rcases takF_err 10 [] l with h | h | h
      · exact absurd h he
      · unfold takN; rw [h]; exact ⟨rfl, rfl⟩
      · unfold takN; rw [h]; exact ⟨rfl, rfl⟩
    have ht : ((takN l).e != 0) = true := by simpa using he
    have ht2 : ((takN l).e == 0) = false := by simpa using he
    clear he hz
    go_enter Try.func91, Try.ntmps91
    go_wp2_with fail
    refine (rtake_any _ _ _ l _ _ HL.out (by unfold maxLen; omega) HR.out).mono ?_
    rintro e w1 ⟨rfl, rfl⟩
    go_wp2_with fail
    go_ret3
    exact (TakeTo.err w (takN l).e)
end Go.Proofs.Ytoiiblopnchljaa
