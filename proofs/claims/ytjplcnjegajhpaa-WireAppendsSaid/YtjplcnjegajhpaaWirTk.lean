/-
  The walk of WireTake.
-/
import Derived.Test.YtjplcnjegajhpaaWirLaws
import Derived.Test.YtjplcnjegajhpaaWirTakeR
namespace Go.Proofs.Ytjplcnjegajhpaa
open Go.ChangeShapes Go.WideShapes Go.ChangeAt Go.RowKit

theorem few1_yes (n : Int) (h : n ≤ 300) (w : World) :
    Calls Try.prog 17 #[.int .i64 n] w fun e w' => e = .returned (.bool true) ∧ w = w' := by
  go_enter Try.func17, Try.ntmps17
  go_wp2
  go_ret
  exact ⟨ret_bool (by simp), rfl⟩
theorem few1_no (n : Int) (h : ¬ n ≤ 300) (w : World) :
    Calls Try.prog 17 #[.int .i64 n] w fun e w' => e = .returned (.bool false) ∧ w = w' := by
  go_enter Try.func17, Try.ntmps17
  go_wp2
  go_ret
  exact ⟨ret_bool (by simp), rfl⟩

set_option maxHeartbeats 2000000 in
theorem WireTake_walk (a0 : Option Addr) (len0 cap0 : Nat) (z0 : List Int) (a1 : Int) (w : World) (w0 : IsRow .u8 w a0 len0 cap0 z0) (_w1 : (Lit.int .i64 a1).wf = true) (_s0 : cap0 * 1 ≤ 140737488351232) :
    Calls Try.prog 4 #[.slice a0 len0 cap0, .int .i64 a1] w fun e w' => e = .returned (.bool true) ∧ Below w.heap.size w w' := by
  obtain ⟨l, hl, hm, hlc, hn, hr⟩ := w0.open_
  obtain ⟨i0, hi0, hz0, hz1, hz2⟩ := info_parts bytes_info
  have HL := Lib.hid hl
  have HN := Lib.hid hn
  have HR := Lib.hid hr
  clear w0 hl hn hr
  by_cases h0 : len0 ≤ 300
  · go_enter Try.func4, Try.ntmps4
    go_wp2_with fail
    refine (few1_yes _ (by omega) _).mono ?_
    rintro e w1 ⟨rfl, rfl⟩
    go_wp2_with (at_builtin; refine wpList_append_rd _ rfl (.tmp 24) (.tmp 25) _ rfl 0 5 i0 _ 1 Try.underlying22 hi0 hz0 hz1 hz2 rfl _ 0 [] rfl (Own.made w 5).1 w.heap.size a0 len0 cap0 (l.map bv) rfl ?c1 ?c2 ?c3 (bv_one l) ?c4 ?c5 (Nat.zero_le _) ?_)
    case c1 => exact HN.out
    case c2 => exact HR.out.frNo (fr_alloc _ _) (Nat.le_refl _)
    case c3 => rw [List.length_map, HL.out]
    case c4 => unfold maxLen; omega
    case c5 => omega
    intro v2 w2 happ
    obtain ⟨o2, f2⟩ := (Own.made w 5).appendedNew (by simp) rfl (by rw [List.length_map, HL.out]) happ
    rw [List.nil_append] at o2
    have F2 := Lib.hid ((fr_alloc w (.cells #[] 5)).transNew f2 fun i hi => hi)
    obtain ⟨A2, c2, rfl, n2⟩ := o2.form
    rw [List.length_map, HL.out] at o2 ⊢
    have O2 := Lib.hid o2
    clear happ o2 f2 n2
    go_wp2_with fail
    go_loopw [6] (fun i wr => ∃ (k : Nat) (ys : List UInt8), k ≤ len0 ∧ i = .int .i64 (k : Int) ∧ ys.length = len0 ∧ Own wr (fun i => w.heap.size ≤ i) 5 (.slice A2 len0 c2) (ys.map bv) ∧ Fr No w wr) (fun i _ => len0 - (intOf i).toNat)
    case atStart => exact ⟨0, l, Nat.zero_le _, rfl, HL.out, O2.out, F2.out⟩
    case round =>
      obtain ⟨k, ys, hk, rfl, hys, o3, f3⟩ := hrel
      have HY := Lib.hid hys
      have O3 := Lib.hid o3
      have F3 := Lib.hid f3
      clear hys o3 f3
      by_cases hlt : k < len0
      · by_cases hlt2 : (k : Int) < a1
        · obtain ⟨b, rfl, hb1, hb2, hcell⟩ := own_head O3.out (by omega)
          have hky : k < ys.length := by rw [HY.out]; exact hlt
          obtain ⟨hc1, hf1⟩ := hcell k (by rw [List.length_map]; exact hky)
          simp only [List.getElem_map] at hc1
          have hor := or128 ys[k].toNat ys[k].toNat_lt
          have hbv : Value.int .u8 (bits BinOp.or IntKind.u8 (ys[k].toNat : Int) 128) = bv (UInt8.ofNat (ys[k].toNat % 128 + 128)) := by
            rw [hor]
            simp only [bv, UInt8.toNat_ofNat']
            congr 2
            omega
          obtain ⟨o4, f4⟩ := own_stored O3.out k (.int .u8 (bits BinOp.or IntKind.u8 (ys[k].toNat : Int) 128))
          rw [hbv, ← List.map_set] at o4
          have O4 : Hid (Own (wr.setCell ⟨b, k, none⟩ (.int .u8 (bits BinOp.or IntKind.u8 (ys[k].toNat : Int) 128))) (fun i => w.heap.size ≤ i) 5 (.slice (some ⟨b, 0, none⟩) len0 c2) ((ys.set k (UInt8.ofNat (ys[k].toNat % 128 + 128))).map bv)) := by
            show Own _ _ _ _ _
            rw [hbv]
            exact o4
          have F4 := Lib.hid (F3.out.transNew f4 fun i hi => hi)
          clear hcell hor hbv o4 f4 hb1 hb2
          go_wp2_with fail
          go_roundw
          case rel => exact ⟨k + 1, _, by omega, by go_num, by rw [List.length_set]; exact HY.out, O4.out, F4.out⟩
          case measure => simp [intOf]; omega
        · have t2 : decide ((k : Int) < a1) = false := by simp; omega
          go_wp2_with fail
          refine (take_any _ _ _ l _ _ HL.out hm (HR.out.frNo F3.out (Nat.le_refl _))).mono ?_
          rintro e w4 ⟨rfl, rfl⟩
          go_wp2_with fail
          refine (rtake_any _ _ _ l _ _ HL.out hm (HR.out.frNo F3.out (Nat.le_refl _))).mono ?_
          rintro e w4 ⟨rfl, rfl⟩
          go_wp2_with fail
          refine (take_any _ _ _ ys _ _ HY.out hm O3.out.rd).mono ?_
          rintro e w4 ⟨rfl, rfl⟩
          go_wp2_with fail
          refine (rtake_any _ _ _ ys _ _ HY.out hm O3.out.rd).mono ?_
          rintro e w4 ⟨rfl, rfl⟩
          go_wp2_with fail
          refine (awake1_any _).mono ?_
          rintro e w5 ⟨rfl, f5⟩
          have F5 := Lib.hid (F3.out.transNo f5)
          clear f5
          go_wp2_with fail
          go_ret
          exact ⟨ret_bool (by simp), F5.out.belowNo⟩
      · go_wp2_with fail
        refine (take_any _ _ _ l _ _ HL.out hm (HR.out.frNo F3.out (Nat.le_refl _))).mono ?_
        rintro e w4 ⟨rfl, rfl⟩
        go_wp2_with fail
        refine (rtake_any _ _ _ l _ _ HL.out hm (HR.out.frNo F3.out (Nat.le_refl _))).mono ?_
        rintro e w4 ⟨rfl, rfl⟩
        go_wp2_with fail
        refine (take_any _ _ _ ys _ _ HY.out hm O3.out.rd).mono ?_
        rintro e w4 ⟨rfl, rfl⟩
        go_wp2_with fail
        refine (rtake_any _ _ _ ys _ _ HY.out hm O3.out.rd).mono ?_
        rintro e w4 ⟨rfl, rfl⟩
        go_wp2_with fail
        refine (awake1_any _).mono ?_
        rintro e w5 ⟨rfl, f5⟩
        have F5 := Lib.hid (F3.out.transNo f5)
        clear f5
        go_wp2_with fail
        go_ret
        exact ⟨ret_bool (by simp), F5.out.belowNo⟩
  · go_enter Try.func4, Try.ntmps4
    go_wp2_with fail
    refine (few1_no _ (by omega) _).mono ?_
    rintro e w1 ⟨rfl, rfl⟩
    go_wp2_with fail
    refine (awake1_any _).mono ?_
    rintro e w5 ⟨rfl, f5⟩
    have F5 := Lib.hid f5
    clear f5
    go_wp2_with fail
    go_ret
    exact ⟨ret_bool (by simp), F5.out.belowNo⟩
end Go.Proofs.Ytjplcnjegajhpaa
