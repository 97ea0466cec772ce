/-
  The sanity check of the wire's statements, and the walks of those on single integers.
-/
import Derived.Test.YtjplcnjegajhpaaWirTake
import Derived.Test.YtjplcnjegajhpaaWirRef
import Derived.Test.YtjplcnjegajhpaaSame
import Derived.Deep.RegionHeld3
namespace Go.Proofs.Ytjplcnjegajhpaa
open Go.ChangeShapes Go.WideShapes Go.ChangeAt Go.RowKit

theorem enc_m1 : encN (codeN (-1)) = [1] := by
  rw [show codeN (-1) = 1 from by decide, encN_lt 1 (by decide)]
  rfl
theorem enc_64 : encN (codeN 64) = [128, 1] := by
  rw [show codeN 64 = 128 from by decide, encN_ge 128 (by decide), encN_lt _ (by decide)]
  rfl

set_option maxHeartbeats 1000000 in
theorem awake1_any (w : World) :
    Calls Try.prog 13 #[] w fun e w' => e = .returned (.bool true) ∧ Fr No w w' := by
  have t1 : takN [128, 1] = ⟨64, 2, 0⟩ := by decide
  have t2 : takN [128, 0] = ⟨0, 0, 18⟩ := by decide
  have T1 := Lib.hid t1
  have T2 := Lib.hid t2
  clear t1 t2
  go_enter Try.func13, Try.ntmps13
  go_wp2_with fail
  have R1 := Lib.hid (Rd.new w [.int .u8 128, .int .u8 1] 5 (xs := [128, 1].map bv) rfl)
  have F1 := Lib.hid (fr_alloc w (.cells #[.int .u8 128, .int .u8 1] 5))
  generalize w.alloc (.cells #[.int .u8 128, .int .u8 1] 5) = w1 at *
  refine (take_any _ 2 2 [128, 1] _ _ rfl (by unfold maxLen; omega) R1.out).mono ?_
  rintro e w1' ⟨rfl, rfl⟩
  rw [T1.out]
  go_wp2_with fail
  have R2 := Lib.hid (Rd.new w1 [.int .u8 128, .int .u8 0] 5 (xs := [128, 0].map bv) rfl)
  have F2 := Lib.hid (F1.out.transNo (fr_alloc w1 (.cells #[.int .u8 128, .int .u8 0] 5)))
  generalize w1.alloc (.cells #[.int .u8 128, .int .u8 0] 5) = w2 at *
  refine (take_any _ 2 2 [128, 0] _ _ rfl (by unfold maxLen; omega) R2.out).mono ?_
  rintro e w2' ⟨rfl, rfl⟩
  rw [T2.out]
  go_wp2_with fail
  refine (int_any none 0 0 (-1) [] _ 0 (fun _ => rfl) rfl Rd.nil (Nat.zero_le _) (by omega) (by omega) (by omega)).mono ?_
  rintro e w3 ⟨A3, c3, rfl, o3, f3⟩
  rw [enc_m1] at o3 ⊢
  have O3 := Lib.hid o3
  have F3 := Lib.hid (F2.out.transNo f3)
  clear o3 f3
  go_wp2_with fail
  refine (same_bytes _ _ _ _ _ _ [1] [1] _ _ _ O3.out.len.2 rfl (O3.out.frNo (fr_alloc _ _)).rd (fun h => by cases h) rfl (Rd.new w3 [.int .u8 1] 5 rfl)).mono ?_
  rintro e w4 ⟨rfl, rfl⟩
  go_wp2_with fail
  refine (int_any none 0 0 64 [] _ 0 (fun _ => rfl) rfl Rd.nil (Nat.zero_le _) (by omega) (by omega) (by omega)).mono ?_
  rintro e w5 ⟨A5, c5, rfl, o5, f5⟩
  rw [enc_64] at o5 ⊢
  have O5 := Lib.hid o5
  have F5 := Lib.hid ((F3.out.transNo (fr_alloc _ _)).transNo f5)
  clear o5 f5
  go_wp2_with fail
  refine (same_bytes _ _ _ _ _ _ [128, 1] [128, 1] _ _ _ O5.out.len.2 rfl (O5.out.frNo (fr_alloc _ _)).rd (fun h => by cases h) rfl (Rd.new w5 [.int .u8 128, .int .u8 1] 5 rfl)).mono ?_
  rintro e w6 ⟨rfl, rfl⟩
  go_wp2_with fail
  go_ret
  exact ⟨ret_bool rfl, F5.out.transNo (fr_alloc _ _)⟩

theorem WireInt_walk (a0 : Option Addr) (len0 cap0 : Nat) (z0 : List Int) (a1 : Int) (w : World) (w0 : IsRow .u8 w a0 len0 cap0 z0) (w1 : (Lit.int .i64 a1).wf = true) (s0 : cap0 * 1 ≤ 140737488351232) :
    Calls Try.prog 3 #[.slice a0 len0 cap0, .int .i64 a1] w fun e w' => e = .returned (.bool true) ∧ Below w.heap.size w w' := by
  obtain ⟨l, hl, -, hlc, hn, hr⟩ := w0.open_
  have b1 := bounds_i64 w1
  have HL := Lib.hid hl
  have HN := Lib.hid hn
  have HR := Lib.hid hr
  clear w0 w1 hl hn hr
  go_enter Try.func3, Try.ntmps3
  go_wp2_with fail
  refine (awake1_any _).mono ?_
  rintro e w1 ⟨rfl, f1⟩
  have F1 := Lib.hid f1
  clear f1
  go_wp2_with fail
  refine (int_any a0 len0 cap0 a1 l _ w.heap.size HN.out HL.out (HR.out.frNo F1.out (Nat.le_refl _)) F1.out.size (by omega) (by omega) (by omega)).mono ?_
  rintro e w2 ⟨A2, c2, rfl, o2, f2⟩
  have O2 := Lib.hid o2
  have F2 := Lib.hid (F1.out.transNo f2)
  clear o2 f2 F1
  go_wp2_with fail
  refine (rint_any a0 len0 cap0 a1 l _ w.heap.size HN.out HL.out (HR.out.frNo F2.out (Nat.le_refl _)) F2.out.size (by omega) (by omega) (by omega)).mono ?_
  rintro e w3 ⟨A3, c3, rfl, o3, f3⟩
  have P2 := Lib.hid (O2.out.frNo f3)
  have O3 := Lib.hid o3
  have F3 := Lib.hid (F2.out.transNo f3)
  clear o3 f3 F2 O2
  go_wp2_with fail
  refine (same_bytes _ _ _ _ _ _ (l ++ encN (codeN a1)) (l ++ encN (codeN a1)) _ _ _ P2.out.len.2 (by rw [List.length_append, HL.out]) P2.out.rd O3.out.len.2 (by rw [List.length_append, HL.out]) O3.out.rd).mono ?_
  rintro e w4 ⟨rfl, rfl⟩
  go_wp2_with fail
  go_ret
  exact ⟨ret_bool (by simp), F3.out.belowNo⟩

set_option maxHeartbeats 1000000 in
theorem WireBack_walk (a0 : Int) (a1 : Option Addr) (len1 cap1 : Nat) (z1 : List Int) (w : World) (w0 : (Lit.int .i64 a0).wf = true) (w1 : IsRow .u8 w a1 len1 cap1 z1) (s1 : cap1 * 1 ≤ 140737488351232) :
    Calls Try.prog 5 #[.int .i64 a0, .slice a1 len1 cap1] w fun e w' => e = .returned (.bool true) ∧ Below w.heap.size w w' := by
  obtain ⟨l, hl, -, hlc, hn, hr⟩ := w1.open_
  obtain ⟨i0, hi0, hz0, hz1, hz2⟩ := info_parts bytes_info
  have b1 := bounds_i64 w0
  have hcl := encN_len10 _ (codeN_lt a0 (by omega) (by omega))
  have TK := Lib.hid (takN_enc a0 (by omega) (by omega) l)
  have HL := Lib.hid hl
  have HN := Lib.hid hn
  have HR := Lib.hid hr
  clear w0 w1 hl hn hr
  go_enter Try.func5, Try.ntmps5
  go_wp2_with fail
  refine (int_any none 0 0 a0 [] _ 0 (fun _ => rfl) rfl Rd.nil (Nat.zero_le _) (by omega) (by omega) (by omega)).mono ?_
  rintro e w1 ⟨A1, c1, rfl, o1, f1⟩
  generalize hE : encN (codeN a0) = E at *
  rw [Nat.zero_add, List.nil_append] at o1
  rw [Nat.zero_add]
  have O1 := Lib.hid o1
  have F1 := Lib.hid f1
  have N1 := Lib.hid o1.len.2
  clear o1 f1 hE
  go_wp2_with (at_builtin; refine wpList_append_rd _ rfl (.tmp 12) (.tmp 13) _ rfl 0 5 i0 _ 1 Try.underlying22 hi0 hz0 hz1 hz2 rfl _ 0 [] rfl (Own.made w1 5).1 w1.heap.size A1 E.length c1 (E.map bv) rfl ?c1 ?c2 ?c3 (bv_one E) ?c4 ?c5 (Nat.zero_le _) ?_)
  case c1 => exact N1.out
  case c2 => exact O1.out.rd.frNo (fr_alloc _ _) (Nat.le_refl _)
  case c3 => rw [List.length_map]
  case c4 => unfold maxLen; omega
  case c5 => omega
  intro v2 w2 happ
  obtain ⟨o2, f2⟩ := (Own.made w1 5).appendedNew (by simp) rfl (by rw [List.length_map]) happ
  rw [List.nil_append] at o2
  have FF := Lib.hid ((fr_alloc w1 (.cells #[] 5)).transNew f2 fun i hi => hi)
  obtain ⟨A2, c2, rfl, n2⟩ := o2.form
  rw [List.length_map] at o2 ⊢
  have O2 := Lib.hid o2
  have hsz2 : w1.heap.size ≤ w2.heap.size := FF.out.size
  have hsz1 : w.heap.size ≤ w1.heap.size := F1.out.size
  clear happ o2 f2 n2
  go_wp2_with (at_builtin; refine wpList_append_rd _ rfl (.tmp 14) (.tmp 15) _ rfl 0 5 i0 _ 1 Try.underlying22 hi0 hz0 hz1 hz2 rfl _ E.length (E.map bv) rfl ?c0 w.heap.size a1 len1 cap1 (l.map bv) rfl ?c1 ?c2 ?c3 (bv_one l) ?c4 ?c5 (Nat.zero_le _) ?_)
  case c0 => exact O2.out.own (by rw [List.length_map])
  case c1 => exact HN.out
  case c2 => exact HR.out.frNo (F1.out.transNo FF.out) (Nat.le_refl _)
  case c3 => rw [List.length_map, HL.out]
  case c4 => unfold maxLen; omega
  case c5 => omega
  intro v3 w3 happ
  obtain ⟨o3, f3⟩ := O2.out.appendedNew hsz2 (by rw [List.length_map]) (by rw [List.length_map, HL.out]) happ
  rw [← List.map_append] at o3
  have G3 := Lib.hid (F1.out.transNo (FF.out.transNew f3 fun i hi => hi))
  obtain ⟨A3, c3, rfl, n3⟩ := o3.form
  rw [List.length_map, List.length_append, HL.out] at o3 ⊢
  have O3 := Lib.hid o3
  clear happ o3 f3 n3 FF F1 O2 O1 N1
  go_wp2_with fail
  refine (take_any _ _ _ (E ++ l) _ _ (by rw [List.length_append, HL.out]) (by unfold maxLen; omega) O3.out.rd).mono ?_
  rintro e w4 ⟨rfl, rfl⟩
  rw [TK.out]
  go_wp2_with fail
  refine (awake1_any _).mono ?_
  rintro e w5 ⟨rfl, f5⟩
  have F5 := Lib.hid (G3.out.transNo f5)
  clear f5
  go_wp2_with fail
  go_ret
  exact ⟨ret_bool (by simp), F5.out.belowNo⟩
end Go.Proofs.Ytjplcnjegajhpaa
