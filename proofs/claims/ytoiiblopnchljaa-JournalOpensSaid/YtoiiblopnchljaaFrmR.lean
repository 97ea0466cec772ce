/-
  The contracts of the frame's reference: Eight, Back, Put, Take.
-/
import Derived.Test.YtoiiblopnchljaaFrmT
import Derived.Test.YtoiiblopnchljaaWirRef
import Derived.Test.YtoiiblopnchljaaWirTakeR
import Derived.Test.YtoiiblopnchljaaDigRef
import Derived.Deep.RegionHeld3
namespace Go.Proofs.Ytoiiblopnchljaa
open Go.ChangeShapes Go.WideShapes Go.ChangeAt Go.RowKit

theorem leN_get : ∀ (K S k : Nat) (h : k < K), (leN K S)[k]'(by rw [leN_length]; exact h) = UInt8.ofNat (S / 256 ^ k % 256) := by
  intro K
  induction K with
  | zero => intro S k h; omega
  | succ K ih =>
    intro S k h
    rcases k with _ | k
    · simp [leN]
    · simp only [leN, List.getElem_cons_succ]
      rw [ih (S / 256) k (by omega), Nat.div_div_eq_div_mul, Nat.pow_succ, Nat.mul_comm]

set_option maxRecDepth 100000 in
set_option maxHeartbeats 1000000 in
theorem eight_any (A : Option Addr) (n c : Nat) (S : Nat) (l : List UInt8) (w : World) (B : Nat) (hA : A = none → n = 0) (hl : l.length = n) (hr : Rd w B A (l.map bv)) (hB : B ≤ w.heap.size) (_hS : S < 18446744073709551616) (hsz : n ≤ 140737488355000) :
    Calls Try.prog 94 #[.slice A n c, .int .u64 (S : Int)] w (PutTo w (l ++ leN 8 S)) := by
  obtain ⟨i0, hi0, hz0, hz1, hz2⟩ := info_parts bytes_info
  have HA := Lib.hid hA
  have HN := Lib.hid hl
  have HR := Lib.hid hr
  clear hA hl hr
  go_enter Try.func94, Try.ntmps94
  go_wp2_with (at_builtin; refine wpList_append_rd _ rfl (.tmp 7) (.tmp 8) _ rfl 0 5 i0 _ 1 Try.underlying52 hi0 hz0 hz1 hz2 rfl _ 0 [] rfl (Own.made w 5).1 B A n c (l.map bv) rfl ?c1 ?c2 ?c3 (bv_one l) ?c4 ?c5 (Nat.zero_le _) ?_)
  case c1 => exact HA.out
  case c2 => exact HR.out.frNo (fr_alloc _ _) hB
  case c3 => rw [List.length_map, HN.out]
  case c4 => unfold maxLen; omega
  case c5 => omega
  intro v0 w0 happ
  obtain ⟨o0, f0⟩ := (Own.made w 5).appendedNew (by simp) rfl (by rw [List.length_map, HN.out]) happ
  rw [List.nil_append] at o0
  obtain ⟨A0, c0, rfl, n0⟩ := o0.form
  rw [List.length_map, HN.out] at o0 ⊢
  have O0 := Lib.hid o0
  have F0 := Lib.hid ((fr_alloc w (.cells #[] 5)).transNew f0 fun i hi => hi)
  clear happ o0 f0 n0
  go_wp2_with fail
  go_loopw [5, 6] (fun b i wr => ∃ (A' : Option Addr) (c' k : Nat), k ≤ 8 ∧ i = .int .i64 (k : Int) ∧ b = .slice A' (n + k) c' ∧ Own wr (fun i => w.heap.size ≤ i) 5 (.slice A' (n + k) c') ((l ++ (leN 8 S).take k).map bv) ∧ Fr No w wr) (fun _ i _ => 8 - (intOf i).toNat)
  case atStart => exact ⟨A0, c0, 0, Nat.zero_le _, rfl, rfl, by simpa using O0.out, F0.out⟩
  case round =>
    obtain ⟨A', c', k, hk, rfl, rfl, ho, hf⟩ := hrel
    have O2 := Lib.hid ho
    have F2 := Lib.hid hf
    have hs2 : w.heap.size ≤ wr.heap.size := hf.size
    clear ho hf
    by_cases hlt : k < 8
    · have hb : [Value.int .u8 ((S : Int) / 2 ^ (8 * k) % 256)] = [UInt8.ofNat (S / 256 ^ k % 256)].map bv := by
        simp only [List.map_cons, List.map_nil, bv, UInt8.toNat_ofNat']
        congr 2
        have e : ((S : Int) / 2 ^ (8 * k)) = ((S / 256 ^ k : Nat) : Int) := by
          rw [← show (2 : Nat) ^ (8 * k) = 256 ^ k from by rw [Nat.pow_mul]]
          push_cast
          rfl
        rw [e]
        omega
      have hsn : (leN 8 S).take (k + 1) = (leN 8 S).take k ++ [UInt8.ofNat (S / 256 ^ k % 256)] := by
        rw [List.take_succ_eq_append_getElem (by rw [leN_length]; exact hlt), leN_get 8 S k hlt]
      have HB := Lib.hid hb
      have HSN := Lib.hid hsn
      have HTL : Hid (((leN 8 S).take k).length = k) := by
        show ((leN 8 S).take k).length = k
        rw [List.length_take, leN_length]
        omega
      have P2 := Lib.hid (O2.out.frNo (fr_alloc wr (.cells #[.int .u8 ((S : Int) / 2 ^ (8 * k) % 256)] 5)))
      clear hb hsn
      go_wp2_with (at_builtin; refine wpList_append_rd _ rfl (.tmp 14) (.tmp 21) _ rfl 0 5 i0 _ 1 Try.underlying52 hi0 hz0 hz1 hz2 rfl _ (n + k) ((l ++ (leN 8 S).take k).map bv) rfl ?d0 (wr.heap.size + 1) _ 1 1 ([UInt8.ofNat (S / 256 ^ k % 256)].map bv) rfl (fun h => by cases h) ?d1 rfl (bv_one _) ?d4 ?d5 (Nat.zero_le _) ?_)
      case d0 => exact P2.out.own (by rw [List.length_map, List.length_append, HN.out, HTL.out])
      case d1 => exact Rd.new wr [.int .u8 ((S : Int) / 2 ^ (8 * k) % 256)] 5 HB.out
      case d4 => unfold maxLen; omega
      case d5 => omega
      intro v3 w3 happ
      obtain ⟨o3, f3⟩ := P2.out.appendedNew (n := n + k) (m := 1) (news := [bv (UInt8.ofNat (S / 256 ^ k % 256))]) (v' := v3) (w' := w3) (by simp; omega) (by rw [List.length_map, List.length_append, HN.out, HTL.out]) rfl (by simpa using happ)
      have e3 : (l ++ (leN 8 S).take k).map bv ++ [bv (UInt8.ofNat (S / 256 ^ k % 256))] = (l ++ (leN 8 S).take (k + 1)).map bv := by rw [HSN.out]; simp
      have hl3 : ((l ++ (leN 8 S).take (k + 1)).map bv).length = n + (k + 1) := by
        rw [List.length_map, List.length_append, HN.out, List.length_take, leN_length]
        omega
      rw [e3] at o3
      obtain ⟨A3, c3, rfl, n3⟩ := o3.form
      rw [hl3] at o3 ⊢
      have O3 := Lib.hid o3
      have F3 := Lib.hid ((F2.out.alloc (.cells #[.int .u8 ((S : Int) / 2 ^ (8 * k) % 256)] 5)).transNew f3 fun i hi => hi)
      clear happ o3 f3 n3 e3 hl3
      go_wp2_with fail
      go_roundw
      case rel => exact ⟨A3, c3, k + 1, by omega, by go_num, rfl, O3.out, F3.out⟩
      case measure => simp [intOf]; omega
    · obtain rfl : k = 8 := by omega
      go_wp2_with fail
      go_ret
      refine ⟨A', c', ?_, ?_, F2.out⟩
      · rw [List.length_append, leN_length, HN.out]; rfl
      · rw [List.length_append, leN_length, HN.out]
        have := O2.out
        rwa [List.take_of_length_le (by rw [leN_length]; omega)] at this

set_option maxRecDepth 100000 in
set_option maxHeartbeats 1000000 in
theorem back_any (A : Option Addr) (c : Nat) (l : List UInt8) (w : World) (B : Nat) (hl : l.length = 8) (hr : Rd w B A (l.map bv)) :
    Calls Try.prog 101 #[.slice A 8 c] w fun e w' => e = .returned (.int .u64 ((unleN l : Nat) : Int)) ∧ w = w' := by
  have HL := Lib.hid hl
  have HR := Lib.hid hr
  clear hl hr
  go_enter Try.func101, Try.ntmps101
  go_wp2_with fail
  go_loop [3, 4] (fun s i => ∃ (j : Nat), j ≤ 8 ∧ i = .int .i64 (j : Int) ∧ s = .int .u64 ((unleN (l.take j) : Nat) : Int)) (fun _ i => 8 - (intOf i).toNat)
  case atStart => exact ⟨0, Nat.zero_le _, rfl, rfl⟩
  case round =>
    obtain ⟨j, hj, rfl, rfl⟩ := hrel
    by_cases hlt : j < 8
    · obtain ⟨b, off, rfl, _, hc⟩ := HR.out.at_ (by rw [List.length_map, HL.out]; omega)
      have hck := hc j (by rw [List.length_map, HL.out]; omega)
      simp only [List.getElem_map] at hck
      have hx256 : (l[j]'(by rw [HL.out]; omega)).toNat < 256 := UInt8.toNat_lt _
      have hor := or_byte (l.take j) (l[j]'(by rw [HL.out]; omega)) j (by rw [List.length_take, HL.out]; omega) hlt
      have hsn : l.take (j + 1) = l.take j ++ [l[j]'(by rw [HL.out]; omega)] := List.take_succ_eq_append_getElem (by rw [HL.out]; omega)
      have HO := Lib.hid hor
      have HSN := Lib.hid hsn
      clear hc hor hsn
      go_wp2_with fail
      refine ⟨⟨j + 1, by omega, by go_num, ?_⟩, by simp [intOf]; omega⟩
      rw [HO.out, HSN.out]
    · obtain rfl : j = 8 := by omega
      go_wp2_with fail
      go_ret
      refine ⟨ret_int ?_, rfl⟩
      rw [List.take_of_length_le (by rw [HL.out]; omega)]

set_option maxHeartbeats 1000000 in
theorem rput_long (A : Option Addr) (n c : Nat) (key : Int) (A2 : Option Addr) (m c2 : Nat) (l : List UInt8) (w : World) (B : Nat) (hA : A = none → n = 0) (hl : l.length = n) (hr : Rd w B A (l.map bv)) (hB : B ≤ w.heap.size) (hsz : n ≤ 140737488355000) (hm : 65536 < m) :
    Calls Try.prog 80 #[.slice A n c, .int .i64 key, .slice A2 m c2] w (PutTo w l) := by
  obtain ⟨i0, hi0, hz0, hz1, hz2⟩ := info_parts bytes_info
  have HA := Lib.hid hA
  have HN := Lib.hid hl
  have HR := Lib.hid hr
  have ht : decide ((65536 : Int) < (m : Int)) = true := by simp; omega
  clear hA hl hr
  go_enter Try.func80, Try.ntmps80
  go_wp2_with (at_builtin; refine wpList_append_rd _ rfl (.tmp 10) (.tmp 11) _ rfl 0 5 i0 _ 1 Try.underlying52 hi0 hz0 hz1 hz2 rfl _ 0 [] rfl (Own.made w 5).1 B A n c (l.map bv) rfl ?c1 ?c2 ?c3 (bv_one l) ?c4 ?c5 (Nat.zero_le _) ?_)
  case c1 => exact HA.out
  case c2 => exact HR.out.frNo (fr_alloc _ _) hB
  case c3 => rw [List.length_map, HN.out]
  case c4 => unfold maxLen; omega
  case c5 => omega
  intro v1 w1 happ
  obtain ⟨o1, f1⟩ := (Own.made w 5).appendedNew (by simp) rfl (by rw [List.length_map, HN.out]) happ
  rw [List.nil_append] at o1
  obtain ⟨A1, c1, rfl, n1⟩ := o1.form
  rw [List.length_map] at o1 ⊢
  have O1 := Lib.hid o1
  have F1 := Lib.hid ((fr_alloc w (.cells #[] 5)).transNew f1 fun i hi => hi)
  clear happ o1 f1 n1
  go_wp2_with fail
  go_ret
  exact ⟨A1, c1, rfl, O1.out, F1.out⟩

set_option maxHeartbeats 2000000 in
theorem rput_short (A : Option Addr) (n c : Nat) (key : Int) (A2 : Option Addr) (m c2 : Nat) (l p : List UInt8) (w : World) (B : Nat) (hA : A = none → n = 0) (hl : l.length = n) (hr : Rd w B A (l.map bv)) (hA2 : A2 = none → m = 0) (hp : p.length = m) (hr2 : Rd w B A2 (p.map bv)) (hB : B ≤ w.heap.size) (hsz : n ≤ 140737488280000) (hm : m ≤ 65536) :
    Calls Try.prog 80 #[.slice A n c, .int .i64 key, .slice A2 m c2] w (PutTo w (l ++ putN key p)) := by
  obtain ⟨i0, hi0, hz0, hz1, hz2⟩ := info_parts bytes_info
  have hput : putN key p = headN key p ++ p := by unfold putN; rw [if_pos (by rw [hp]; exact hm)]
  have hel := encN_len10 (codeN (m : Int)) (codeN_lt _ (by omega) (by omega))
  obtain ⟨S0, hS0, hSl⟩ := nat_of_u64 (sumI_lo key p) (sumI_hi key p)
  have hS0' : (sumI key p).toNat = S0 := by rw [hS0, Int.toNat_natCast]
  have hhead : headN key p = encN (codeN (m : Int)) ++ leN 8 S0 := by unfold headN; rw [hp, hS0']
  rw [hput, hhead]
  have HA := Lib.hid hA
  have HN := Lib.hid hl
  have HR := Lib.hid hr
  have HA2 := Lib.hid hA2
  have HP := Lib.hid hp
  have HR2 := Lib.hid hr2
  have HS := Lib.hid hS0
  have ht : decide ((65536 : Int) < (m : Int)) = false := by simp; omega
  clear hA hl hr hA2 hp hr2 hS0 hS0' hput hhead
  go_enter Try.func80, Try.ntmps80
  go_wp2_with fail
  refine (rint_any A n c (m : Int) l _ B HA.out HN.out HR.out hB (by omega) (by omega) (by omega)).mono ?_
  rintro e w1 ⟨A1, c1, rfl, o1, f1⟩
  generalize encN (codeN (m : Int)) = E at *
  have O1 := Lib.hid o1
  have F1 := Lib.hid f1
  clear o1 f1
  go_wp2_with fail
  refine (rsum_any _ _ _ _ p _ HP.out (by unfold maxLen; omega) (HR2.out.frNo F1.out hB)).mono ?_
  rintro e w2 ⟨rfl, rfl⟩
  rw [HS.out]
  go_wp2_with fail
  refine (eight_any A1 (n + E.length) c1 S0 (l ++ E) _ _ O1.out.len.2 (by rw [List.length_append, HN.out]) O1.out.rd (Nat.le_refl _) hSl (by omega)).mono ?_
  rintro e w3 ⟨A3, c3, rfl, o3, f3⟩
  have hs1 := F1.out.size
  have hl3 : (l ++ E ++ leN 8 S0).length = n + E.length + 8 := by simp only [List.length_append, leN_length, HN.out]
  rw [hl3] at o3 ⊢
  have O3 := Lib.hid (o3.mono (G := fun i => w.heap.size ≤ i) fun i hi => Nat.le_trans hs1 hi)
  have F3 := Lib.hid (F1.out.transNo f3)
  have HL3 : Hid (((l ++ E ++ leN 8 S0).map bv).length = n + E.length + 8) := by
    show ((l ++ E ++ leN 8 S0).map bv).length = n + E.length + 8
    rw [List.length_map]
    exact hl3
  have hs3 : w.heap.size ≤ w3.heap.size := F3.out.size
  clear o3 f3 hs1 hl3 O1 F1
  go_wp2_with (at_builtin; refine wpList_append_rd _ rfl (.tmp 20) (.tmp 21) _ rfl 0 5 i0 _ 1 Try.underlying52 hi0 hz0 hz1 hz2 rfl _ (n + E.length + 8) ((l ++ E ++ leN 8 S0).map bv) rfl ?c0 B A2 m c2 (p.map bv) rfl ?c1 ?c2 ?c3 (bv_one _) ?c4 ?c5 (Nat.zero_le _) ?_)
  case c0 => exact O3.out.own HL3.out
  case c1 => exact HA2.out
  case c2 => exact HR2.out.frNo F3.out hB
  case c3 => rw [List.length_map, HP.out]
  case c4 => unfold maxLen; omega
  case c5 => omega
  intro v4 w4 happ
  obtain ⟨o4, f4⟩ := O3.out.appendedNew (n := n + E.length + 8) (m := m) (news := p.map bv) (v' := v4) (w' := w4) hs3 HL3.out (by rw [List.length_map, HP.out]) (by simpa using happ)
  have e4 : (l ++ E ++ leN 8 S0).map bv ++ p.map bv = (l ++ (E ++ leN 8 S0 ++ p)).map bv := by simp
  rw [e4] at o4
  obtain ⟨A4, c4, rfl, n4⟩ := o4.form
  rw [List.length_map] at o4
  have O4 := Lib.hid o4
  have F4 := Lib.hid (F3.out.transNew f4 fun i hi => hi)
  clear happ o4 f4 n4 e4
  rw [List.length_map]
  generalize (l ++ (E ++ leN 8 S0 ++ p)) = r at *
  go_wp2_with fail
  go_ret
  exact ⟨A4, c4, rfl, O4.out, F4.out⟩
end Go.Proofs.Ytoiiblopnchljaa
