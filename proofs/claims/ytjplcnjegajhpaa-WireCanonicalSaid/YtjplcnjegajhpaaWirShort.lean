/-
  The walks of WireShort and WireCanonical.
-/
import Derived.Test.YtjplcnjegajhpaaWirLaws
namespace Go.Proofs.Ytjplcnjegajhpaa
open Go.ChangeShapes Go.WideShapes Go.ChangeAt Go.RowKit

theorem short_iff (n : Int) : (encN (codeN n)).length = 1 ↔ (-64 ≤ n ∧ n ≤ 63) := by
  rw [encN_one]
  unfold codeN
  split <;> omega

set_option maxHeartbeats 1000000 in
theorem WireShort_walk (a0 : Int) (w : World) (w0 : (Lit.int .i64 a0).wf = true) :
    Calls Try.prog 6 #[.int .i64 a0] w fun e w' => e = .returned (.bool true) ∧ Below w.heap.size w w' := by
  have b1 := bounds_i64 w0
  have hcl := encN_len10 _ (codeN_lt a0 (by omega) (by omega))
  have hcp := encN_pos (codeN a0)
  have hsi := short_iff a0
  have LAST := Lib.hid (encN_last (codeN a0))
  have hl1 : decide (((encN (codeN a0)).length : Int) < 1) = false := by simp; omega
  have hl2 : decide ((10 : Int) < ((encN (codeN a0)).length : Int)) = false := by simp; omega
  obtain ⟨ra, rb, hra, hrb, hrc⟩ : ∃ ra rb : Bool, decide (-64 ≤ a0) = ra ∧ decide (a0 ≤ 63) = rb ∧ (((encN (codeN a0)).length : Int) == 1) = (ra && rb) := by
    refine ⟨_, _, rfl, rfl, ?_⟩
    rw [Bool.eq_iff_iff]
    simp
    omega
  clear w0 hsi
  go_enter Try.func6, Try.ntmps6
  go_wp2_with fail
  refine (int_any none 0 0 a0 [] _ 0 (fun _ => rfl) rfl Rd.nil (Nat.zero_le _) (by omega) (by omega) (by omega)).mono ?_
  rintro e w1 ⟨A1, c1, rfl, o1, f1⟩
  generalize encN (codeN a0) = E at *
  rw [Nat.zero_add, List.nil_append] at o1
  rw [Nat.zero_add]
  have O1 := Lib.hid o1
  have F1 := Lib.hid f1
  clear o1 f1
  go_wp2_with fail
  refine (awake1_any _).mono ?_
  rintro e w2 ⟨rfl, f2⟩
  have O2 := Lib.hid (O1.out.frNo f2)
  have F2 := Lib.hid (F1.out.transNo f2)
  clear f2 O1 F1
  rcases ra with _ | _ <;> rcases rb with _ | _
  all_goals
    simp only [Bool.and_true, Bool.and_false] at hrc
    go_wp2_with fail
    go_loop [4] (fun i => ∃ k : Nat, k ≤ E.length ∧ i = .int .i64 (k : Int)) (fun i => E.length - (intOf i).toNat)
    case atStart => exact ⟨0, Nat.zero_le _, rfl⟩
    case round =>
      obtain ⟨k, hk, rfl⟩ := hrel
      by_cases hlt : k < E.length
      · obtain ⟨b, off, rfl, _, hc⟩ := O2.out.rd.at_ (by rw [List.length_map]; omega)
        have hck := hc k (by rw [List.length_map]; omega)
        simp only [List.getElem_map] at hck
        have hla := LAST.out k hlt
        clear hc
        by_cases hkl : k = E.length - 1
        · have t1 : decide ((E[k].toNat : Int) < 128) = true := by simp; omega
          have t2 : ((k : Int) == (E.length : Int) - 1) = true := by simp; omega
          clear hla hkl
          go_wp2_with fail
          go_round
          case rel => exact ⟨k + 1, by omega, by go_num⟩
          case measure => simp [intOf]; omega
        · have t1 : decide ((E[k].toNat : Int) < 128) = false := by simp; omega
          have t2 : ((k : Int) == (E.length : Int) - 1) = false := by simp; omega
          clear hla hkl
          go_wp2_with fail
          go_round
          case rel => exact ⟨k + 1, by omega, by go_num⟩
          case measure => simp [intOf]; omega
      · go_wp2_with fail
        go_ret
        exact ⟨ret_bool rfl, F2.out.belowNo⟩

set_option maxHeartbeats 1000000 in
theorem WireCanonical_walk (a0 : Option Addr) (len0 cap0 : Nat) (z0 : List Int) (w : World) (w0 : IsRow .u8 w a0 len0 cap0 z0) (_s0 : cap0 * 1 ≤ 140737488351232) :
    Calls Try.prog 7 #[.slice a0 len0 cap0] w fun e w' => e = .returned (.bool true) ∧ Below w.heap.size w w' := by
  obtain ⟨l, hl, hm, hlc, hn, hr⟩ := w0.open_
  have HL := Lib.hid hl
  have HN := Lib.hid hn
  have HR := Lib.hid hr
  clear w0 hl hn hr
  rcases takF_err 10 [] l with hk | hk | hk
  · obtain ⟨n, n1, n2, n3, n4, n5, n6⟩ := takN_ok l hk
    have hcp := encN_pos (codeN n)
    have hcl := encN_len10 _ (codeN_lt n n1 n2)
    have hTK : takN l = ⟨n, (encN (codeN n)).length, 0⟩ := by
      rcases ht : takN l with ⟨x, y, z⟩
      have e1 : (takN l).e = 0 := hk
      rw [ht] at n3 n4 e1
      simp only at n3 n4 e1
      rw [n3, n4, e1]
    have TK := Lib.hid hTK
    have N6 := Lib.hid n6
    rw [HL.out] at n5
    clear hk n3 n4 n6 hTK
    go_enter Try.func7, Try.ntmps7
    go_wp2_with fail
    refine (take_any _ _ _ l _ _ HL.out hm HR.out).mono ?_
    rintro e w1 ⟨rfl, rfl⟩
    rw [TK.out]
    obtain ⟨k, hk⟩ : ∃ k, k = (encN (codeN n)).length := ⟨_, rfl⟩
    rw [← hk] at n5 hcp hcl
    rw [← hk]
    have HK := Lib.hid hk
    have t1 : decide (k ≤ len0) = true := by simp; omega
    have t2 : decide ((1 : Int) ≤ (k : Int)) = true := by simp; omega
    have hkc : k ≤ cap0 := by omega
    have HLK : Hid ((l.take k).length = k) := by
      show (l.take k).length = k
      have := HL.out
      rw [List.length_take]
      omega
    clear hk
    go_wp2_with fail
    go_region_held3 (fun _ => True) (trivial) (first
      | (go_at_call 13; refine (awake1_any _).mono ?_; rintro e w2 ⟨rfl, f2⟩; have F2 := Lib.hid (((Fr.refl No _).drew).transNo f2); clear f2)
      | (go_at_call 15; refine (int_any none 0 0 n [] _ 0 (fun _ => rfl) rfl Rd.nil (Nat.zero_le _) (by omega) (by omega) (by omega)).mono ?_; rintro e w3 ⟨A3, c3, rfl, o3, f3⟩; rw [Nat.zero_add, List.nil_append, ← HK.out] at o3; rw [Nat.zero_add, ← HK.out]; have O3 := Lib.hid o3; have F3 := Lib.hid (F2.out.transNo f3); clear o3 f3)
      | (go_at_call 14; refine (same_bytes _ _ _ _ _ _ (encN (codeN n)) (l.take k) _ _ _ O3.out.len.2 HK.out.symm O3.out.rd (fun h => by have := HN.out h; omega) HLK.out (by have := (HR.out.take k).frNo F3.out (Nat.le_refl _); rwa [← List.map_take] at this)).mono ?_; rintro e w4 ⟨rfl, rfl⟩))
    all_goals
      go_wp2_with fail
      go_ret
      refine ⟨ret_bool ?_, F3.out.belowNo⟩
      rw [HK.out, N6.out]
      simp
  · have TK := Lib.hid (show takN l = ⟨0, 0, 17⟩ from hk)
    clear hk
    go_enter Try.func7, Try.ntmps7
    go_wp2_with fail
    refine (take_any _ _ _ l _ _ HL.out hm HR.out).mono ?_
    rintro e w1 ⟨rfl, rfl⟩
    rw [TK.out]
    go_wp2_with fail
    refine (awake1_any _).mono ?_
    rintro e w2 ⟨rfl, f2⟩
    have F2 := Lib.hid f2
    clear f2
    go_wp2_with fail
    go_ret
    exact ⟨ret_bool rfl, F2.out.belowNo⟩
  · have TK := Lib.hid (show takN l = ⟨0, 0, 18⟩ from hk)
    clear hk
    go_enter Try.func7, Try.ntmps7
    go_wp2_with fail
    refine (take_any _ _ _ l _ _ HL.out hm HR.out).mono ?_
    rintro e w1 ⟨rfl, rfl⟩
    rw [TK.out]
    go_wp2_with fail
    refine (awake1_any _).mono ?_
    rintro e w2 ⟨rfl, f2⟩
    have F2 := Lib.hid f2
    clear f2
    go_wp2_with fail
    go_ret
    exact ⟨ret_bool rfl, F2.out.belowNo⟩
end Go.Proofs.Ytjplcnjegajhpaa
