/-
  The walk of WireLists.
-/
import Derived.Test.YtjplcnjegajhpaaWirLR
import Derived.Test.YtjplcnjegajhpaaWirLaws
namespace Go.Proofs.Ytjplcnjegajhpaa
open Go.ChangeShapes Go.WideShapes Go.ChangeAt Go.RowKit

theorem WireLists_walk (a0 : Option Addr) (len0 cap0 : Nat) (z0 : List Int) (a1 : ByteArray) (a2 : Option Addr) (len2 cap2 : Nat) (z2 : List Int) (w : World) (w0 : IsRow .u8 w a0 len0 cap0 z0) (_w1 : a1.size ≤ maxLen) (w2 : IsRow .i64 w a2 len2 cap2 z2) (s0 : cap0 ≤ 1048576) (s1 : a1.size ≤ 1048576) (s2 : cap2 ≤ 1048576) :
    Calls Try.prog 9 #[.slice a0 len0 cap0, .string a1, .slice a2 len2 cap2] w fun e w' => e = .returned (.bool true) ∧ Below w.heap.size w w' := by
  obtain ⟨l, hl, -, hlc, hn, hr⟩ := w0.open_
  obtain ⟨q, hql, -, hqc, hqn, hqr, hqb⟩ := w2.openI
  have HL := Lib.hid hl
  have HN := Lib.hid hn
  have HR := Lib.hid hr
  have HQL := Lib.hid hql
  have HQN := Lib.hid hqn
  have HQR := Lib.hid hqr
  have HQB := Lib.hid hqb
  clear w0 _w1 w2 hl hn hr hql hqn hqr hqb
  go_enter Try.func9, Try.ntmps9
  go_wp2_with fail
  refine (awake1_any _).mono ?_
  rintro e w1 ⟨rfl, f1⟩
  have F1 := Lib.hid f1
  clear f1
  go_wp2_with fail
  refine (text_any a0 len0 cap0 a1 l _ w.heap.size HN.out HL.out (HR.out.frNo F1.out (Nat.le_refl _)) F1.out.size (by omega)).mono ?_
  rintro e w2 ⟨A2, c2, rfl, o2, f2⟩
  have O2 := Lib.hid o2
  have F2 := Lib.hid (F1.out.transNo f2)
  clear o2 f2 F1
  go_wp2_with fail
  refine (rtext_any a0 len0 cap0 a1 l _ w.heap.size HN.out HL.out (HR.out.frNo F2.out (Nat.le_refl _)) F2.out.size (by omega)).mono ?_
  rintro e w3 ⟨A3, c3, rfl, o3, f3⟩
  have P2 := Lib.hid (O2.out.frNo f3)
  have O3 := Lib.hid o3
  have F3 := Lib.hid (F2.out.transNo f3)
  clear o3 f3 F2 O2
  go_wp2_with fail
  refine (same_bytes _ _ _ _ _ _ (l ++ textN a1.data.toList) (l ++ textN a1.data.toList) _ _ _ P2.out.len.2 (by rw [List.length_append, HL.out]) P2.out.rd O3.out.len.2 (by rw [List.length_append, HL.out]) O3.out.rd).mono ?_
  rintro e w4 ⟨rfl, rfl⟩
  rw [beq_self_eq_true]
  go_wp2_with fail
  refine (ints_any a0 len0 cap0 a2 len2 cap2 q l _ w.heap.size w.heap.size HN.out HL.out (HR.out.frNo F3.out (Nat.le_refl _)) F3.out.size HQN.out HQL.out (HQR.out.frNo F3.out (Nat.le_refl _)) F3.out.size HQB.out (by omega)).mono ?_
  rintro e w5 ⟨A5, c5, rfl, o5, f5⟩
  have O5 := Lib.hid o5
  have F5 := Lib.hid (F3.out.transNo f5)
  clear o5 f5 F3
  go_wp2_with fail
  refine (rints_any a0 len0 cap0 a2 len2 cap2 q l _ w.heap.size w.heap.size HN.out HL.out (HR.out.frNo F5.out (Nat.le_refl _)) F5.out.size HQN.out HQL.out (HQR.out.frNo F5.out (Nat.le_refl _)) F5.out.size HQB.out (by omega)).mono ?_
  rintro e w6 ⟨A6, c6, rfl, o6, f6⟩
  have P5 := Lib.hid (O5.out.frNo f6)
  have O6 := Lib.hid o6
  have F6 := Lib.hid (F5.out.transNo f6)
  clear o6 f6 F5 O5
  go_wp2_with fail
  refine (same_bytes _ _ _ _ _ _ (l ++ intsN q) (l ++ intsN q) _ _ _ P5.out.len.2 (by rw [List.length_append, HL.out]) P5.out.rd O6.out.len.2 (by rw [List.length_append, HL.out]) O6.out.rd).mono ?_
  rintro e w7 ⟨rfl, rfl⟩
  rw [beq_self_eq_true]
  go_wp2_with fail
  go_ret
  exact ⟨ret_bool rfl, F6.out.belowNo⟩
end Go.Proofs.Ytjplcnjegajhpaa
