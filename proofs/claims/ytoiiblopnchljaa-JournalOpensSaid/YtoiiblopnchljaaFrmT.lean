/-
  The contract of frame.Take.
-/
import Derived.Test.YtoiiblopnchljaaFrm
namespace Go.Proofs.Ytoiiblopnchljaa
open Go.ChangeShapes Go.WideShapes Go.ChangeAt Go.RowKit

/-- What Take returns. -/
def TakeTo (w : World) (f : Frm) (e : Ending) (w' : World) : Prop :=
  ∃ A c, e = .returned (.tuple #[.slice A f.p.length c, .int .i64 (f.k : Int), .int .i64 f.e]) ∧ Own w' (fun i => w.heap.size ≤ i) 5 (.slice A f.p.length c) (f.p.map bv) ∧ Fr No w w'

theorem TakeTo.err (w : World) (x : Int) : TakeTo w (frmE x) (.returned (.tuple #[.slice none 0 0, .int .i64 0, .int .i64 x])) w :=
  ⟨none, 0, rfl, Own.nil _ _ _, Fr.refl _ _⟩

theorem or_byte (q : List UInt8) (x : UInt8) (k : Nat) (hq : q.length = k) (hk : k < 8) :
    bits BinOp.or IntKind.u64 ((unleN q : Nat) : Int) (IntKind.u64.wrap ((x.toNat : Int) * 2 ^ (8 * k))) = ((unleN (q ++ [x]) : Nat) : Int) := by
  have hx := x.toNat_lt
  have hv := unleN_lt q
  rw [hq] at hv
  have h256 : (2 : Nat) ^ (8 * k) = 256 ^ k := by rw [Nat.pow_mul]
  have hle : 256 ^ k ≤ 256 ^ 7 := Nat.pow_le_pow_right (by omega) (by omega)
  have hle2 : 256 ^ k * x.toNat ≤ 256 ^ 7 * 255 := Nat.mul_le_mul hle (by omega)
  have e2 : (x.toNat : Int) * 2 ^ (8 * k) = ((256 ^ k * x.toNat : Nat) : Int) := by
    rw [← h256]
    push_cast
    rw [Int.mul_comm]
  rw [e2, IntKind.wrap_u64]
  have e3 : ((256 ^ k * x.toNat : Nat) : Int) % 18446744073709551616 = ((256 ^ k * x.toNat : Nat) : Int) := by omega
  rw [e3, u64_or_nat _ _ (by omega) (by omega)]
  congr 1
  rw [Nat.or_comm, ← h256]
  rw [← h256] at hv
  rw [← Nat.two_pow_add_eq_or_of_lt hv, unleN_append, hq]
  simp only [unleN]
  rw [h256, show x.toNat + 256 * 0 = x.toNat from by omega]
  omega

set_option maxRecDepth 100000 in
set_option maxHeartbeats 2000000 in
theorem frtake_any (A : Option Addr) (n c : Nat) (key : Int) (l : List UInt8) (w : World) (B : Nat) (hA : A = none → n = 0) (hl : l.length = n) (hr : Rd w B A (l.map bv)) (hsz : n ≤ 140737488355328) (hnc : n ≤ c) :
    Calls Try.prog 40 #[.slice A n c, .int .i64 key] w (TakeTo w (takeFr key l)) := by
  obtain ⟨i0, hi0, hz0, hz1, hz2⟩ := info_parts bytes_info
  have HA := Lib.hid hA
  have HL := Lib.hid hl
  have HR := Lib.hid hr
  have HD : Hid (takeFr key l = takeFr key l) := rfl
  unfold takeFr at HD
  clear hA hl hr
  by_cases he : (takN l).e = 0
  · obtain ⟨N, n1, n2, n3, n4, n5, n6⟩ := takN_ok l he
    obtain ⟨k, hk⟩ : ∃ k, k = (takN l).k := ⟨_, rfl⟩
    have hkn : k ≤ n := by rw [hk, n4, ← HL.out]; exact n5
    have hTK : takN l = ⟨N, k, 0⟩ := by
      rcases ht : takN l with ⟨x, y, z⟩
      rw [ht] at n3 he hk
      simp only at n3 he hk
      rw [n3, he, hk]
    have TK := Lib.hid hTK
    clear he n3 n4 n5 n6 hk hTK
    by_cases hN0 : N < 0
    · have HF : Hid (takeFr key l = frmE 18) := by
        show takeFr key l = frmE 18
        unfold takeFr
        rw [TK.out, if_neg (by simp), if_pos hN0]
      rw [HF.out]
      go_enter Try.func40, Try.ntmps40
      go_wp2_with fail
      refine (take_any _ _ _ l _ _ HL.out (by unfold maxLen; omega) HR.out).mono ?_
      rintro e w1 ⟨rfl, rfl⟩
      rw [TK.out]
      go_wp2_with fail
      go_ret3
      exact TakeTo.err _ _
    · by_cases hN1 : 65536 < N
      · have HF : Hid (takeFr key l = frmE 2) := by
          show takeFr key l = frmE 2
          unfold takeFr
          rw [TK.out, if_neg (by simp), if_neg hN0, if_pos hN1]
        rw [HF.out]
        go_enter Try.func40, Try.ntmps40
        go_wp2_with fail
        refine (take_any _ _ _ l _ _ HL.out (by unfold maxLen; omega) HR.out).mono ?_
        rintro e w1 ⟨rfl, rfl⟩
        rw [TK.out]
        go_wp2_with fail
        go_ret3
        exact TakeTo.err _ _
      · obtain ⟨m, rfl⟩ : ∃ m : Nat, N = (m : Int) := ⟨N.toNat, by omega⟩
        by_cases hsh : (n : Int) - k < 8 + (m : Int)
        · have HF : Hid (takeFr key l = frmE 17) := by
            show takeFr key l = frmE 17
            unfold takeFr
            rw [TK.out, if_neg (by simp), if_neg hN0, if_neg hN1, if_pos (by rw [HL.out]; exact hsh)]
          rw [HF.out]
          go_enter Try.func40, Try.ntmps40
          go_wp2_with fail
          refine (take_any _ _ _ l _ _ HL.out (by unfold maxLen; omega) HR.out).mono ?_
          rintro e w1 ⟨rfl, rfl⟩
          rw [TK.out]
          go_wp2_with fail
          go_ret3
          exact TakeTo.err _ _
        · have hfit : k + 8 + m ≤ n := by omega
          have hm1 : m ≤ 65536 := by omega
          clear hN0 hN1
          go_enter Try.func40, Try.ntmps40
          go_wp2_with fail
          refine (take_any _ _ _ l _ _ HL.out (by unfold maxLen; omega) HR.out).mono ?_
          rintro e w1 ⟨rfl, rfl⟩
          rw [TK.out]
          go_wp2_with fail
          go_loop [10, 39] (fun s i => ∃ (j : Nat), j ≤ 8 ∧ i = .int .i64 (j : Int) ∧ s = .int .u64 ((unleN ((l.drop k).take j) : Nat) : Int)) (fun _ i => 8 - (intOf i).toNat)
          case atStart => exact ⟨0, Nat.zero_le _, rfl, rfl⟩
          case round =>
            obtain ⟨j, hj, rfl, rfl⟩ := hrel
            by_cases hlt : j < 8
            · obtain ⟨b, off, rfl, _, hc⟩ := HR.out.at_ (by rw [List.length_map, HL.out]; omega)
              have hck := hc (k + j) (by rw [List.length_map, HL.out]; omega)
              simp only [List.getElem_map] at hck
              have hx256 : (l[k + j]'(by rw [HL.out]; omega)).toNat < 256 := UInt8.toNat_lt _
              clear hc
              have hor := or_byte ((l.drop k).take j) (l[k + j]'(by rw [HL.out]; omega)) j (by rw [List.length_take, List.length_drop, HL.out]; omega) hlt
              have hsn : (l.drop k).take (j + 1) = (l.drop k).take j ++ [l[k + j]'(by rw [HL.out]; omega)] := by
                rw [List.take_succ_eq_append_getElem (by rw [List.length_drop, HL.out]; omega), List.getElem_drop]
              have HO := Lib.hid hor
              have HSN := Lib.hid hsn
              clear hor hsn
              go_wp2_with fail
              refine ⟨⟨j + 1, by omega, by go_num, ?_⟩, by simp [intOf]; omega⟩
              rw [HO.out, HSN.out]
            · obtain rfl : j = 8 := by omega
              obtain ⟨U, hU⟩ : ∃ U, U = unleN ((l.drop k).take 8) := ⟨_, rfl⟩
              rw [← hU]
              have HU := Lib.hid hU
              clear hU
              have hkc : k + 8 + m ≤ c := by omega
              obtain ⟨p, hp⟩ : ∃ p, p = (l.drop (k + 8)).take m := ⟨_, rfl⟩
              have HPL : Hid (p.length = m) := by
                show p.length = m
                rw [hp, List.length_take, List.length_drop, HL.out]
                omega
              have hpm : p.length ≤ 65536 := by rw [HPL.out]; exact hm1
              obtain ⟨S0, hS0, hSl⟩ := nat_of_u64 (sumI_lo key p) (sumI_hi key p)
              have HS := Lib.hid hS0
              have HOK : Hid (U = S0 → takeFr key l = ⟨p, k + 8 + m, 0⟩) := by
                show U = S0 → takeFr key l = ⟨p, k + 8 + m, 0⟩
                intro hus
                unfold takeFr
                rw [TK.out, if_neg (by simp), if_neg (by simp only; omega), if_neg (by simp only; omega), if_neg (by simp only; rw [HL.out]; omega)]
                simp only [Int.toNat_natCast]
                rw [← HU.out, ← hp, hS0, if_neg (by rw [hus]; simp)]
              have HNO : Hid (¬ U = S0 → takeFr key l = frmE 18) := by
                show ¬ U = S0 → takeFr key l = frmE 18
                intro hus
                unfold takeFr
                rw [TK.out, if_neg (by simp), if_neg (by simp only; omega), if_neg (by simp only; omega), if_neg (by simp only; rw [HL.out]; omega)]
                simp only [Int.toNat_natCast]
                rw [← HU.out, ← hp, hS0, if_pos (by intro h; exact hus (Int.natCast_inj.1 h))]
              have HPD := Lib.hid hp
              clear hp hS0 hm1 TK
              by_cases hcc : c = k + 8
              · obtain rfl : m = 0 := by omega
                have HP0 : Hid (p = []) := List.eq_nil_of_length_eq_zero HPL.out
                subst hcc
                go_wp2_with (at_builtin; refine wpList_append_rd _ rfl _ (.tmp 64) _ rfl 0 5 i0 _ 1 Try.underlying52 hi0 hz0 hz1 hz2 rfl (.slice none 0 0) 0 [] rfl (World.ownsRow_nil _ _ _ _) B _ _ _ (p.map bv) rfl ?c1 ?c2 ?c3 (bv_one p) ?c4 ?c5 (Nat.zero_le _) ?_)
                case c2 => rw [HP0.out]; exact Rd.nil
                case c3 => rw [HP0.out]
                intro v2 w2 happ
                obtain ⟨o2, f2⟩ := (Own.nil w (fun i => w.heap.size ≤ i) 5).appendedNew (Nat.le_refl _) rfl (by rw [List.length_map, HPL.out]) happ
                rw [List.nil_append] at o2
                obtain ⟨A2, c2, rfl, n2⟩ := o2.form
                rw [List.length_map] at o2 ⊢
                have O2 := Lib.hid o2
                have F2 := Lib.hid ((Fr.refl No w).transNew f2 fun i hi => hi)
                clear happ o2 f2 n2
                go_wp2_with fail
                refine (sum_any _ _ _ _ p _ rfl (by unfold maxLen; omega) O2.out.rd).mono ?_
                rintro e w3 ⟨rfl, rfl⟩
                rw [HS.out]
                by_cases hus : U = S0
                · have ht : ((U : Int) != (S0 : Int)) = false := by rw [hus]; simp
                  have HUS := Lib.hid hus
                  clear hus
                  go_wp2_with fail
                  go_ret3
                  rw [HOK.out HUS.out]
                  refine ⟨A2, c2, ?_, O2.out, F2.out⟩
                  simp [HPL.out]
                · have ht : ((U : Int) != (S0 : Int)) = true := by simp; omega
                  have HUS := Lib.hid hus
                  clear hus
                  go_wp2_with fail
                  go_ret3
                  rw [HNO.out HUS.out]
                  exact ⟨none, 0, rfl, Own.nil _ _ _, F2.out⟩
              · obtain ⟨b, off, rfl, hbB, hc⟩ := HR.out.at_ (by rw [List.length_map, HL.out]; omega)
                have R1 : Hid (Rd w B (some ⟨b, off + (k + 8), none⟩) (p.map bv)) := by
                  show Rd w B (some ⟨b, off + (k + 8), none⟩) (p.map bv)
                  rw [HPD.out, List.map_take, List.map_drop]
                  exact (HR.out.drop (k + 8)).take m
                clear hc
                go_wp2_with (at_builtin; refine wpList_append_rd _ rfl _ (.tmp 64) _ rfl 0 5 i0 _ 1 Try.underlying52 hi0 hz0 hz1 hz2 rfl (.slice none 0 0) 0 [] rfl (World.ownsRow_nil _ _ _ _) B _ _ _ (p.map bv) rfl ?d1 ?d2 ?d3 (bv_one p) ?d4 ?d5 (Nat.zero_le _) ?_)
                case d2 => exact R1.out
                case d3 => exact HPL.out
                case d4 => unfold maxLen; omega
                case d5 => omega
                intro v2 w2 happ
                obtain ⟨o2, f2⟩ := (Own.nil w (fun i => w.heap.size ≤ i) 5).appendedNew (Nat.le_refl _) rfl (by rw [List.length_map, HPL.out]) happ
                rw [List.nil_append] at o2
                obtain ⟨A2, c2, rfl, n2⟩ := o2.form
                rw [List.length_map] at o2 ⊢
                have O2 := Lib.hid o2
                have F2 := Lib.hid ((Fr.refl No w).transNew f2 fun i hi => hi)
                clear happ o2 f2 n2
                go_wp2_with fail
                refine (sum_any _ _ _ _ p _ rfl (by unfold maxLen; omega) O2.out.rd).mono ?_
                rintro e w3 ⟨rfl, rfl⟩
                rw [HS.out]
                by_cases hus : U = S0
                · have ht : ((U : Int) != (S0 : Int)) = false := by rw [hus]; simp
                  have HUS := Lib.hid hus
                  clear hus
                  go_wp2_with fail
                  go_ret3
                  rw [HOK.out HUS.out]
                  refine ⟨A2, c2, ?_, O2.out, F2.out⟩
                  simp [HPL.out]
                · have ht : ((U : Int) != (S0 : Int)) = true := by simp; omega
                  have HUS := Lib.hid hus
                  clear hus
                  go_wp2_with fail
                  go_ret3
                  rw [HNO.out HUS.out]
                  exact ⟨none, 0, rfl, Own.nil _ _ _, F2.out⟩
  · have HF : Hid (takeFr key l = frmE (takN l).e) := by
      show takeFr key l = frmE (takN l).e
      unfold takeFr
      rw [if_pos he]
    rw [HF.out]
    have hz : (takN l).n = 0 ∧ (takN l).k = 0 := by
      rcases takF_err 10 [] l with h | h | h
      · exact absurd h he
      · unfold takN; rw [h]; exact ⟨rfl, rfl⟩
      · unfold takN; rw [h]; exact ⟨rfl, rfl⟩
    have ht : ((takN l).e != 0) = true := by simpa using he
    have ht2 : ((takN l).e == 0) = false := by simpa using he
    clear he hz
    go_enter Try.func40, Try.ntmps40
    go_wp2_with fail
    refine (take_any _ _ _ l _ _ HL.out (by unfold maxLen; omega) HR.out).mono ?_
    rintro e w1 ⟨rfl, rfl⟩
    go_wp2_with fail
    go_ret3
    exact (TakeTo.err w (takN l).e)
end Go.Proofs.Ytoiiblopnchljaa
