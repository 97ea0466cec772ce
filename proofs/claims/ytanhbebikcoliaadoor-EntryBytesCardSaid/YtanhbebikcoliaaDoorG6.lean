/-
  Several texts in one: WirTake, WirTakeR.
-/
import Derived.Test.YtanhbebikcoliaaDoorG3
import Derived.Laws.BitsAllLaws
/- The contract of wire.TakeInt. -/
namespace Go.Proofs.YtanhbebikcoliaaDoor
open Go.ChangeShapes Go.WideShapes Go.ChangeAt Go.RowKit

theorem and127 (x : Nat) (h : x < 256) : bits BinOp.and IntKind.u8 (x : Int) 127 = ((x % 128 : Nat) : Int) := by
  have : ∀ y : Fin 256, bits BinOp.and IntKind.u8 ((y.val : Nat) : Int) 127 = ((y.val % 128 : Nat) : Int) := by decide +kernel
  exact this ⟨x, h⟩

theorem pow7 (k : Nat) : (2 : Nat) ^ (7 * k) = 128 ^ k := by rw [Nat.pow_mul]

/-- A group of seven bits laid behind the others. -/
theorem or_group (p : List UInt8) (x : UInt8) (k : Nat) (hp : p.length = k) (hk : k < 10) :
    bits BinOp.or IntKind.u64 ((valN p % 18446744073709551616 : Nat) : Int) (IntKind.u64.wrap (IntKind.u64.wrap (bits BinOp.and IntKind.u8 (x.toNat : Int) 127) * 2 ^ (7 * k))) = ((valN (p ++ [x]) % 18446744073709551616 : Nat) : Int) := by
  have hx : x.toNat < 256 := x.toNat_lt
  rw [and127 _ hx, IntKind.wrap_u64, IntKind.wrap_u64]
  have hv := valN_lt p
  rw [hp] at hv
  have hle : 128 ^ k ≤ 128 ^ 9 := Nat.pow_le_pow_right (by omega) (by omega)
  have hU : valN p % 18446744073709551616 = valN p := Nat.mod_eq_of_lt (by omega)
  have e1 : ((x.toNat % 128 : Nat) : Int) % 18446744073709551616 = ((x.toNat % 128 : Nat) : Int) := by omega
  rw [e1, hU]
  have e2 : ((x.toNat % 128 : Nat) : Int) * 2 ^ (7 * k) = ((x.toNat % 128 * 128 ^ k : Nat) : Int) := by
    rw [← pow7 k]
    push_cast
    rfl
  rw [e2]
  obtain ⟨q, hq⟩ : ∃ q, 18446744073709551616 = 128 ^ k * q := ⟨2 * 128 ^ (9 - k), by
    rw [show 18446744073709551616 = 2 * 128 ^ 9 from by decide, show 128 ^ 9 = 128 ^ k * 128 ^ (9 - k) from by rw [← Nat.pow_add]; congr 1; omega]
    rw [Nat.mul_left_comm]⟩
  have e3 : ((x.toNat % 128 * 128 ^ k : Nat) : Int) % 18446744073709551616 = ((128 ^ k * (x.toNat % 128 % q) : Nat) : Int) := by
    have : x.toNat % 128 * 128 ^ k % 18446744073709551616 = 128 ^ k * (x.toNat % 128 % q) := by
      rw [hq, Nat.mul_comm, Nat.mul_mod_mul_left]
    omega
  rw [e3]
  have hq0 : 0 < q := by
    rcases Nat.eq_zero_or_pos q with h0 | h0
    · rw [h0] at hq; omega
    · exact h0
  have hz : x.toNat % 128 % q < q := Nat.mod_lt _ hq0
  have hb : 128 ^ k * (x.toNat % 128 % q) + 128 ^ k ≤ 18446744073709551616 := by
    rw [hq, ← Nat.mul_succ]
    exact Nat.mul_le_mul_left _ hz
  rw [u64_or_nat _ _ (by omega) (by omega)]
  have hor : valN p ||| 128 ^ k * (x.toNat % 128 % q) = 128 ^ k * (x.toNat % 128 % q) + valN p := by
    rw [Nat.or_comm, ← pow7 k]
    rw [← pow7 k] at hv
    exact (Nat.two_pow_add_eq_or_of_lt hv _).symm
  rw [hor]
  congr 1
  rw [valN_append, hp]
  simp only [valN]
  rw [show x.toNat % 128 + 128 * 0 = x.toNat % 128 from by omega]
  have e4 : 128 ^ k * (x.toNat % 128) % 18446744073709551616 = 128 ^ k * (x.toNat % 128 % q) := by rw [hq, Nat.mul_mod_mul_left]
  generalize 128 ^ k * (x.toNat % 128 % q) = G at *
  generalize 128 ^ k * (x.toNat % 128) = H at *
  omega

theorem valN_small (p : List UInt8) (x : UInt8) (k : Nat) (hp : p.length = k) (hk : k < 10) (hx : x.toNat < 128) (h9 : k = 9 → x.toNat ≤ 1) : valN (p ++ [x]) < 18446744073709551616 := by
  have hv := valN_lt p
  rw [valN_append, hp]
  rw [hp] at hv
  simp only [valN]
  rw [show x.toNat % 128 + 128 * 0 = x.toNat from by omega]
  by_cases h : k = 9
  · subst h
    have h1 := h9 rfl
    have : 128 ^ 9 * x.toNat ≤ 128 ^ 9 * 1 := Nat.mul_le_mul_left _ h1
    omega
  · have hle : 128 ^ k ≤ 128 ^ 8 := Nat.pow_le_pow_right (by omega) (by omega)
    have : 128 ^ k * x.toNat ≤ 128 ^ 8 * 127 := Nat.mul_le_mul hle (by omega)
    omega

/-- TakeInt's three results. -/
abbrev takV (t : Tak) : Value := .tuple #[.int .i64 t.n, .int .i64 (t.k : Int), .int .i64 t.e]

set_option maxRecDepth 100000 in
set_option maxHeartbeats 1000000 in
theorem take_any (A : Option Addr) (n c : Nat) (l : List UInt8) (w : World) (B : Nat) (hl : l.length = n) (hm : n ≤ maxLen) (hr : Rd w B A (l.map bv)) :
    Calls Tryd.prog 31 #[.slice A n c] w fun e w' => e = .returned (takV (takN l)) ∧ w = w' := by
  unfold maxLen at hm
  have HL := Lib.hid hl
  have HR := Lib.hid hr
  clear hl hr
  go_enter Tryd.func31, Tryd.ntmps31
  go_wp2_with fail
  go_loop [5, 8] (fun t i => ∃ (k : Nat) (p q : List UInt8), k ≤ 10 ∧ i = .int .i64 (k : Int) ∧ p.length = k ∧ l = p ++ q ∧ t = .int .u64 ((valN p % 18446744073709551616 : Nat) : Int) ∧ takN l = takF (10 - k) p q) (fun _ i => 10 - (intOf i).toNat)
  case atStart => exact ⟨0, [], l, Nat.zero_le _, rfl, rfl, rfl, rfl, rfl⟩
  case round =>
    obtain ⟨k, p, q, hk, rfl, hp, hlq, rfl, ht⟩ := hrel
    have HP := Lib.hid hp
    have HQ := Lib.hid hlq
    have HT := Lib.hid ht
    clear hp hlq ht
    by_cases hk10 : k = 10
    · subst hk10
      go_wp2_with fail
      go_ret3
      refine ⟨?_, rfl⟩
      rw [HT.out]
      rfl
    · have hk9 : k < 10 := by omega
      obtain ⟨U, hU⟩ : ∃ U, U = valN p % 18446744073709551616 := ⟨_, rfl⟩
      rw [← hU]
      have HU := Lib.hid hU
      clear hU hk10
      rcases q with _ | ⟨x, q⟩
      · have hkn : ((k : Int) == (n : Int)) = true := by
          have h1 := HL.out
          rw [HQ.out, List.append_nil, HP.out] at h1
          simp; omega
        go_wp2_with fail
        go_ret3
        refine ⟨?_, rfl⟩
        rw [HT.out, show 10 - k = (9 - k) + 1 from by omega]
        rfl
      · have hlt : k < n := by
          have h1 := HL.out
          rw [HQ.out, List.length_append, HP.out, List.length_cons] at h1
          omega
        have hkn : ((k : Int) == (n : Int)) = false := by simp; omega
        obtain ⟨b, off, rfl, _, hc⟩ := HR.out.at_ (by rw [List.length_map, HL.out]; omega)
        have hck := hc k (by rw [List.length_map, HL.out]; omega)
        have hx : (l.map bv)[k]'(by rw [List.length_map, HL.out]; omega) = bv x := by
          simp only [HQ.out, List.getElem_map]
          rw [List.getElem_append_right (by rw [HP.out]; exact Nat.le_refl _)]
          simp [HP.out]
        rw [hx] at hck
        have hx256 : x.toNat < 256 := x.toNat_lt
        have hor := or_group p x k HP.out hk9
        rw [← HU.out] at hor
        obtain ⟨V, hVd⟩ : ∃ V, V = valN (p ++ [x]) % 18446744073709551616 := ⟨_, rfl⟩
        rw [← hVd] at hor
        have hV : V < 18446744073709551616 := by rw [hVd]; exact Nat.mod_lt _ (by omega)
        have HV := Lib.hid hVd
        clear hc hx hVd
        by_cases hx128 : x.toNat < 128
        · have HX := Lib.hid hx128
          have t1 : decide ((128 : Int) ≤ (x.toNat : Int)) = false := by simp; omega
          by_cases hbad : (0 < k ∧ x.toNat = 0) ∨ (k = 9 ∧ 1 < x.toNat)
          · have HG : Hid (takF (9 - k + 1) p (x :: q) = .corrupt) := by
              show takF (9 - k + 1) p (x :: q) = .corrupt
              simp only [takF, if_pos hx128, HP.out]
              rw [if_pos hbad]
            clear hor
            rcases hbad with ⟨g1, g2⟩ | ⟨g1, g2⟩
            · have t2 : decide ((0 : Int) < (k : Int)) = true := by simp; omega
              have t3 : ((x.toNat : Int) == 0) = true := by rw [g2]; rfl
              clear g2 hx128
              go_wp2_with fail
              go_ret3
              refine ⟨?_, rfl⟩
              rw [HT.out, show 10 - k = (9 - k) + 1 from by omega, HG.out]
              rfl
            · have t2 : decide ((0 : Int) < (k : Int)) = true := by simp; omega
              have t3 : ((x.toNat : Int) == 0) = false := by simp; omega
              have t4 : ((k : Int) == 9) = true := by simp; omega
              have t5 : decide ((1 : Int) < (x.toNat : Int)) = true := by simp; omega
              have hk0' : 0 < k := by omega
              clear g1 hx128
              go_wp2_with fail
              go_ret3
              refine ⟨?_, rfl⟩
              rw [HT.out, show 10 - k = (9 - k) + 1 from by omega, HG.out]
              rfl
          · have HG : Hid (takF (9 - k + 1) p (x :: q) = ⟨numN V, k + 1, 0⟩) := by
              show takF (9 - k + 1) p (x :: q) = ⟨numN V, k + 1, 0⟩
              simp only [takF, if_pos hx128, HP.out]
              rw [if_neg hbad, HV.out, Nat.mod_eq_of_lt (valN_small p x k HP.out hk9 hx128 (fun h9 => by
                rcases Nat.lt_or_ge 1 x.toNat with h1 | h1
                · exact absurd (.inr ⟨h9, h1⟩) hbad
                · exact h1))]
            by_cases hk0 : k = 0
            · have t2 : decide ((0 : Int) < (k : Int)) = false := by simp; omega
              have t4 : ((k : Int) == 9) = false := by simp; omega
              have hnk : ¬ 0 < k := by omega
              clear hbad hx128 hk0
              go_wp2_with (go_at_call 51; refine (number_any _ _ hV).mono ?_; rintro e w' ⟨rfl, rfl⟩)
              go_ret3
              refine ⟨?_, rfl⟩
              rw [HT.out, show 10 - k = (9 - k) + 1 from by omega, HG.out]
              rfl
            · have t2 : decide ((0 : Int) < (k : Int)) = true := by simp; omega
              have t3 : ((x.toNat : Int) == 0) = false := by simp; omega
              have hk0' : 0 < k := by omega
              by_cases hk9' : k = 9
              · have t4 : ((k : Int) == 9) = true := by simp; omega
                have t5 : decide ((1 : Int) < (x.toNat : Int)) = false := by simp; omega
                have HK := Lib.hid hk9'
                clear hbad hx128 hk0 hk9'
                go_wp2_with (go_at_call 51; refine (number_any _ _ hV).mono ?_; rintro e w' ⟨rfl, rfl⟩)
                go_ret3
                refine ⟨?_, rfl⟩
                rw [HT.out, show 10 - k = (9 - k) + 1 from by omega, HG.out]
                rfl
              · have t4 : ((k : Int) == 9) = false := by simp; omega
                clear hbad hx128 hk0 hk9'
                go_wp2_with (go_at_call 51; refine (number_any _ _ hV).mono ?_; rintro e w' ⟨rfl, rfl⟩)
                go_ret3
                refine ⟨?_, rfl⟩
                rw [HT.out, show 10 - k = (9 - k) + 1 from by omega, HG.out]
                rfl
        · have t1 : decide ((128 : Int) ≤ (x.toNat : Int)) = true := by simp; omega
          go_wp2_with fail
          go_round
          case rel =>
            refine ⟨k + 1, p ++ [x], q, by omega, by go_num, by simp [HP.out], by rw [HQ.out]; simp, by rw [HV.out], ?_⟩
            rw [HT.out, show 10 - k = (9 - k) + 1 from by omega, show 10 - (k + 1) = 9 - k from by omega]
            simp only [takF, if_neg hx128]
          case measure => simp [intOf]; omega
end Go.Proofs.YtanhbebikcoliaaDoor
/- The contract of the reference's TakeInt. -/
namespace Go.Proofs.YtanhbebikcoliaaDoor
open Go.ChangeShapes Go.WideShapes Go.ChangeAt Go.RowKit

theorem or_group2 (p : List UInt8) (x : UInt8) (k : Nat) (hp : p.length = k) (hk : k < 10) (y : Int) (hy : y = ((x.toNat % 128 : Nat) : Int)) :
    bits BinOp.or IntKind.u64 ((valN p % 18446744073709551616 : Nat) : Int) (IntKind.u64.wrap (y * 2 ^ (7 * k))) = ((valN (p ++ [x]) % 18446744073709551616 : Nat) : Int) := by
  have h := or_group p x k hp hk
  rw [and127 _ x.toNat_lt] at h
  have e : IntKind.u64.wrap ((x.toNat % 128 : Nat) : Int) = ((x.toNat % 128 : Nat) : Int) := by
    rw [IntKind.wrap_u64]
    omega
  rw [e] at h
  rw [hy]
  exact h

set_option maxRecDepth 100000 in
set_option maxHeartbeats 2000000 in
theorem rtake_any (A : Option Addr) (n c : Nat) (l : List UInt8) (w : World) (B : Nat) (hl : l.length = n) (hm : n ≤ maxLen) (hr : Rd w B A (l.map bv)) :
    Calls Tryd.prog 32 #[.slice A n c] w fun e w' => e = .returned (takV (takN l)) ∧ w = w' := by
  unfold maxLen at hm
  have HL := Lib.hid hl
  have HR := Lib.hid hr
  clear hl hr
  go_enter Tryd.func32, Tryd.ntmps32
  go_wp2_with fail
  go_loop [5, 6] (fun t i => ∃ (k : Nat) (p q : List UInt8), k ≤ 10 ∧ i = .int .i64 (k : Int) ∧ p.length = k ∧ l = p ++ q ∧ t = .int .u64 ((valN p % 18446744073709551616 : Nat) : Int) ∧ takN l = takF (10 - k) p q) (fun _ i => 10 - (intOf i).toNat)
  case atStart => exact ⟨0, [], l, Nat.zero_le _, rfl, rfl, rfl, rfl, rfl⟩
  case round =>
    obtain ⟨k, p, q, hk, rfl, hp, hlq, rfl, ht⟩ := hrel
    have HP := Lib.hid hp
    have HQ := Lib.hid hlq
    have HT := Lib.hid ht
    clear hp hlq ht
    by_cases hk10 : k = 10
    · subst hk10
      go_wp2_with fail
      go_ret3
      refine ⟨?_, rfl⟩
      rw [HT.out]
      rfl
    · have hk9 : k < 10 := by omega
      obtain ⟨U, hU⟩ : ∃ U, U = valN p % 18446744073709551616 := ⟨_, rfl⟩
      rw [← hU]
      have HU := Lib.hid hU
      clear hU hk10
      rcases q with _ | ⟨x, q⟩
      · have hkn : ((k : Int) == (n : Int)) = true := by
          have h1 := HL.out
          rw [HQ.out, List.append_nil, HP.out] at h1
          simp; omega
        go_wp2_with fail
        go_ret3
        refine ⟨?_, rfl⟩
        rw [HT.out, show 10 - k = (9 - k) + 1 from by omega]
        rfl
      · have hlt : k < n := by
          have h1 := HL.out
          rw [HQ.out, List.length_append, HP.out, List.length_cons] at h1
          omega
        have hkn : ((k : Int) == (n : Int)) = false := by simp; omega
        obtain ⟨b, off, rfl, _, hc⟩ := HR.out.at_ (by rw [List.length_map, HL.out]; omega)
        have hck := hc k (by rw [List.length_map, HL.out]; omega)
        have hx : (l.map bv)[k]'(by rw [List.length_map, HL.out]; omega) = bv x := by
          simp only [HQ.out, List.getElem_map]
          rw [List.getElem_append_right (by rw [HP.out]; exact Nat.le_refl _)]
          simp [HP.out]
        rw [hx] at hck
        have hx256 : x.toNat < 256 := x.toNat_lt
        obtain ⟨V, hVd⟩ : ∃ V, V = valN (p ++ [x]) % 18446744073709551616 := ⟨_, rfl⟩
        have hV : V < 18446744073709551616 := by rw [hVd]; exact Nat.mod_lt _ (by omega)
        have HV := Lib.hid hVd
        clear hc hx hVd
        by_cases hx128 : x.toNat < 128
        · have t1 : decide ((x.toNat : Int) < 128) = true := by simp; omega
          have hor := or_group2 p x k HP.out hk9 (x.toNat : Int) (by omega)
          rw [← HU.out, ← HV.out] at hor
          by_cases hbad : (0 < k ∧ x.toNat = 0) ∨ (k = 9 ∧ 1 < x.toNat)
          · have HG : Hid (takF (9 - k + 1) p (x :: q) = .corrupt) := by
              show takF (9 - k + 1) p (x :: q) = .corrupt
              simp only [takF, if_pos hx128, HP.out]
              rw [if_pos hbad]
            clear hor
            rcases hbad with ⟨g1, g2⟩ | ⟨g1, g2⟩
            · have t2 : decide ((0 : Int) < (k : Int)) = true := by simp; omega
              have t3 : ((x.toNat : Int) == 0) = true := by rw [g2]; rfl
              clear g2 hx128
              go_wp2_with fail
              go_ret3
              refine ⟨?_, rfl⟩
              rw [HT.out, show 10 - k = (9 - k) + 1 from by omega, HG.out]
              rfl
            · have t2 : decide ((0 : Int) < (k : Int)) = true := by simp; omega
              have t3 : ((x.toNat : Int) == 0) = false := by simp; omega
              have t4 : ((k : Int) == 9) = true := by simp; omega
              have t5 : decide ((1 : Int) < (x.toNat : Int)) = true := by simp; omega
              have hk0' : 0 < k := by omega
              clear g1 hx128
              go_wp2_with fail
              go_ret3
              refine ⟨?_, rfl⟩
              rw [HT.out, show 10 - k = (9 - k) + 1 from by omega, HG.out]
              rfl
          · have HG : Hid (takF (9 - k + 1) p (x :: q) = ⟨numN V, k + 1, 0⟩) := by
              show takF (9 - k + 1) p (x :: q) = ⟨numN V, k + 1, 0⟩
              simp only [takF, if_pos hx128, HP.out]
              rw [if_neg hbad, HV.out, Nat.mod_eq_of_lt (valN_small p x k HP.out hk9 hx128 (fun h9 => by
                rcases Nat.lt_or_ge 1 x.toNat with h1 | h1
                · exact absurd (.inr ⟨h9, h1⟩) hbad
                · exact h1))]
            have hcases : (¬ 0 < k ∧ ((k : Int) == 9) = false) ∨ (0 < k ∧ ((x.toNat : Int) == 0) = false ∧ ((k : Int) == 9) = true ∧ decide ((1 : Int) < (x.toNat : Int)) = false) ∨ (0 < k ∧ ((x.toNat : Int) == 0) = false ∧ ((k : Int) == 9) = false) := by
              simp only [beq_eq_false_iff_ne, ne_eq, beq_iff_eq, decide_eq_false_iff_not]
              omega
            by_cases hV2 : V % 2 = 0
            · have HN : Hid (numN V = (V : Int) / 2) := by
                show numN V = (V : Int) / 2
                unfold numN
                rw [if_pos hV2]
                omega
              have t6 : ((V : Int) % 2 == 0) = true := by simp; omega
              clear hbad hx128 hV2
              rcases hcases with ⟨g1, g2⟩ | ⟨g1, g2, g3, g4⟩ | ⟨g1, g2, g3⟩
              all_goals
                go_wp2_with fail
                go_ret3
                refine ⟨?_, rfl⟩
                rw [HT.out, show 10 - k = (9 - k) + 1 from by omega, HG.out]
                simp only [HN.out]
                rfl
            · have HN : Hid (numN V = -((V : Int) / 2) - 1) := by
                show numN V = -((V : Int) / 2) - 1
                unfold numN
                rw [if_neg hV2]
                omega
              have t6 : ((V : Int) % 2 == 0) = false := by simp; omega
              clear hbad hx128 hV2
              rcases hcases with ⟨g1, g2⟩ | ⟨g1, g2, g3, g4⟩ | ⟨g1, g2, g3⟩
              all_goals
                go_wp2_with fail
                go_ret3
                refine ⟨?_, rfl⟩
                rw [HT.out, show 10 - k = (9 - k) + 1 from by omega, HG.out]
                simp only [HN.out]
                rfl
        · have t1 : decide ((x.toNat : Int) < 128) = false := by simp; omega
          have hor := or_group2 p x k HP.out hk9 ((x.toNat : Int) - 128) (by omega)
          rw [← HU.out, ← HV.out] at hor
          go_wp2_with fail
          go_round
          case rel =>
            refine ⟨k + 1, p ++ [x], q, by omega, by go_num, by simp [HP.out], by rw [HQ.out]; simp, by rw [HV.out], ?_⟩
            rw [HT.out, show 10 - k = (9 - k) + 1 from by omega, show 10 - (k + 1) = 9 - k from by omega]
            simp only [takF, if_neg hx128]
          case measure => simp [intOf]; omega
end Go.Proofs.YtanhbebikcoliaaDoor
