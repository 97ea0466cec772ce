/-
  The walk of WireAppends.
-/
import Derived.Test.YtjplcnjegajhpaaWirLR
import Derived.Test.YtjplcnjegajhpaaWirTk
import Derived.Deep.RegionHeld3
import Derived.Deep.DeepCutAuto
namespace Go.Proofs.Ytjplcnjegajhpaa
set_option linter.unusedVariables false
open Go.ChangeShapes Go.WideShapes Go.ChangeAt Go.RowKit

theorem own_none {w : World} {F : Nat → Prop} {e : TypeId} {A : Option Addr} {k m c : Nat} {xs : List Value} (h : Own w F e (.slice A (k + m) c) xs) : A = none → k = 0 := fun hA => by have := h.len.2 hA; omega
theorem own_none2 {w : World} {F : Nat → Prop} {e : TypeId} {A : Option Addr} {n k c : Nat} {xs : List Value} (h : Own w F e (.slice A n c) xs) (hk : k ≤ n) : A = none → k = 0 := fun hA => by have := h.len.2 hA; omega
theorem own_front {w : World} {F : Nat → Prop} {e : TypeId} {A : Option Addr} {n k c : Nat} {p x : List UInt8} (h : Own w F e (.slice A n c) ((p ++ x).map bv)) (hp : p.length = k) : Rd w w.heap.size A (p.map bv) := by
  have := h.rd.take k
  rwa [← List.map_take, List.take_left' hp] at this
theorem own_take {w : World} {F : Nat → Prop} {e : TypeId} {A : Option Addr} {n c : Nat} {p : List UInt8} (h : Own w F e (.slice A n c) (p.map bv)) (k : Nat) : Rd w w.heap.size A ((p.take k).map bv) := by
  have := h.rd.take k
  rwa [← List.map_take] at this

/-- A slice that is longer than k and begins with p. -/
def Front (p : List UInt8) (k : Nat) (v : Value) (w : World) : Prop := ∃ A n c, v = .slice A n c ∧ k < n ∧ n ≤ c ∧ (A = none → k = 0) ∧ Rd w w.heap.size A (p.map bv)
def Ap5 (l : List UInt8) (k : Nat) (w2 : World) (x y z : Value) (wx : World) : Prop := Front (l.take k) k x wx ∧ Front (l.take k) k y wx ∧ Front (l.take k) k z wx ∧ Fr No w2 wx

set_option maxRecDepth 100000 in
set_option maxHeartbeats 4000000 in
theorem WireAppends_walk (a0 : Option Addr) (len0 cap0 : Nat) (z0 : List Int) (a1 a2 : Int) (a3 : ByteArray) (w : World) (w0 : IsRow .u8 w a0 len0 cap0 z0) (w1 : (Lit.int .i64 a1).wf = true) (w2 : (Lit.int .i64 a2).wf = true) (_w3 : a3.size ≤ maxLen) (_s0 : cap0 * 1 ≤ 140737488351232) (_s3 : a3.size ≤ 140737488351232) :
    Calls Try.prog 10 #[.slice a0 len0 cap0, .int .i64 a1, .int .i64 a2, .string a3] w fun e w' => e = .returned (.bool true) ∧ Below w.heap.size w w' := by
  obtain ⟨l, hl, hm, hlc, hn, hr⟩ := w0.open_
  obtain ⟨i0, hi0, hz0, hz1, hz2⟩ := info_parts bytes_info
  have b1 := bounds_i64 w1
  have b2 := bounds_i64 w2
  have HL := Lib.hid hl
  have HN := Lib.hid hn
  have HR := Lib.hid hr
  clear w0 hl hn hr w1 w2
  by_cases h0 : len0 ≤ 300
  · by_cases h3 : a3.size ≤ 300
    · have hrm1 := Int.lt_tmod_of_pos a1 (b := (len0 : Int) + 1) (by omega)
      have hrm2 := Int.tmod_lt_of_pos a1 (b := (len0 : Int) + 1) (by omega)
      obtain ⟨k, hkk⟩ : ∃ k : Nat, (a1.tmod ((len0 : Int) + 1) + (len0 : Int) + 1) % ((len0 : Int) + 1) = (k : Int) :=
        ⟨((a1.tmod ((len0 : Int) + 1) + (len0 : Int) + 1) % ((len0 : Int) + 1)).toNat, (Int.toNat_of_nonneg (Int.emod_nonneg _ (by omega))).symm⟩
      have hkm : k ≤ len0 := by
        have := Int.emod_lt_of_pos (a1.tmod ((len0 : Int) + 1) + (len0 : Int) + 1) (b := (len0 : Int) + 1) (by omega)
        omega
      have hm0 : ((len0 : Int) + 1 == 0) = false := by simp; omega
      have hkc : k ≤ cap0 := by omega
      have HTK : Hid ((l.take k).length = k) := by
        show (l.take k).length = k
        have := HL.out
        rw [List.length_take]
        omega
      have HAK : Hid (a0 = none → k = 0) := Lib.hid fun h => by have := HN.out h; omega
      have HRK : Hid (Rd w w.heap.size a0 ((l.take k).map bv)) := by
        have := HR.out.take k
        rw [← List.map_take] at this
        exact Lib.hid this
      go_enter Try.func10, Try.ntmps10
      go_wp2_with fail
      refine (few1_yes _ (by omega) _).mono ?_
      rintro e w1 ⟨rfl, rfl⟩
      go_wp2_with fail
      refine (few1_yes _ (by omega) _).mono ?_
      rintro e w1 ⟨rfl, rfl⟩
      go_wp2_with (at_builtin; refine wpList_append_rd _ rfl (.tmp 25) (.tmp 26) _ rfl 0 5 i0 _ 1 Try.underlying22 hi0 hz0 hz1 hz2 rfl _ 0 [] rfl (Own.made w 5).1 w.heap.size a0 len0 cap0 (l.map bv) rfl ?c1 ?c2 ?c3 (bv_one l) ?c4 ?c5 (Nat.zero_le _) ?_)
      case c1 => exact HN.out
      case c2 => exact HR.out.frNo (fr_alloc _ _) (Nat.le_refl _)
      case c3 => rw [List.length_map, HL.out]
      case c4 => unfold maxLen; omega
      case c5 => omega
      intro v2 w2 happ
      obtain ⟨o2, f2⟩ := (Own.made w 5).appendedNew (by simp) rfl (by rw [List.length_map, HL.out]) happ
      rw [List.nil_append] at o2
      have F2 := Lib.hid ((fr_alloc w (.cells #[] 5)).transNew f2 fun i hi => hi)
      obtain ⟨A2, c2, rfl, n2⟩ := o2.form
      rw [List.length_map, HL.out] at o2 ⊢
      have O2 := Lib.hid o2
      have hc2 : len0 ≤ c2 := o2.cap.1
      have hkc2 : k ≤ c2 := by omega
      clear happ o2 f2 n2
      have hen1 := encN_len10 _ (codeN_lt a2 b2.1 b2.2)
      have hel1 := encN_pos (codeN a2)
      have htl : 1 ≤ (textN a3.data.toList).length := by
        have h5 := encN_pos (codeN (a3.size : Int))
        have h6 : (textN a3.data.toList).length = (encN (codeN (a3.size : Int))).length + a3.size := by unfold textN; rw [List.length_append]; rfl
        omega
      have hil : 1 ≤ (intsN [a2]).length := by
        have h5 := encN_pos (codeN (1 : Int))
        have h6 : (intsN [a2]).length = (encN (codeN (1 : Int))).length + (intsF [a2]).length := by unfold intsN; rw [List.length_append]; rfl
        omega
      generalize hXX : encN (codeN a2) = X at *
      generalize hYY : textN a3.data.toList = Y at *
      generalize hZZ : intsN [a2] = Z at *
      have HXX := Lib.hid hXX
      have HYY := Lib.hid hYY
      have HZZ := Lib.hid hZZ
      clear hXX hYY hZZ
      have hI : ∀ W : World, Fr No w2 W → Calls Try.prog 15 #[.slice a0 k cap0, .int .i64 a2] W fun e w' => ∃ A' c', e = .returned (.slice A' (k + X.length) c') ∧ Own w' (fun i => W.heap.size ≤ i) 5 (.slice A' (k + X.length) c') ((l.take k ++ X).map bv) ∧ Fr No W w' := by
        intro W hW
        have := int_any a0 k cap0 a2 (l.take k) W w.heap.size HAK.out HTK.out (HRK.out.frNo (F2.out.transNo hW) (Nat.le_refl _)) (F2.out.transNo hW).size b2.1 b2.2 (by omega)
        rwa [HXX.out] at this
      have hT : ∀ W : World, Fr No w2 W → Calls Try.prog 21 #[.slice a0 k cap0, .string a3] W fun e w' => ∃ A' c', e = .returned (.slice A' (k + Y.length) c') ∧ Own w' (fun i => W.heap.size ≤ i) 5 (.slice A' (k + Y.length) c') ((l.take k ++ Y).map bv) ∧ Fr No W w' := by
        intro W hW
        have := text_any a0 k cap0 a3 (l.take k) W w.heap.size HAK.out HTK.out (HRK.out.frNo (F2.out.transNo hW) (Nat.le_refl _)) (F2.out.transNo hW).size (by omega)
        rwa [HYY.out] at this
      have hZ : ∀ (W : World) (b : Nat), Fr No w2 W → Rd W W.heap.size (some ⟨b, 0, none⟩) ([a2].map iv) → Calls Try.prog 23 #[.slice a0 k cap0, .slice (some ⟨b, 0, none⟩) 1 1] W fun e w' => ∃ A' c', e = .returned (.slice A' (k + Z.length) c') ∧ Own w' (fun i => W.heap.size ≤ i) 5 (.slice A' (k + Z.length) c') ((l.take k ++ Z).map bv) ∧ Fr No W w' := by
        intro W b hW hR
        have := ints_any a0 k cap0 (some ⟨b, 0, none⟩) 1 1 [a2] (l.take k) W w.heap.size W.heap.size HAK.out HTK.out (HRK.out.frNo (F2.out.transNo hW) (Nat.le_refl _)) (F2.out.transNo hW).size (fun h => by cases h) rfl hR (Nat.le_refl _) (by simpa using b2) (by omega)
        rwa [HZZ.out] at this
      have HI := Lib.hid hI
      have HT := Lib.hid hT
      have HZ := Lib.hid hZ
      clear hI hT hZ
      have hk0 : (0 : Int) ≤ (k : Int) := by omega
      have hk1 : (k : Int) ≤ (cap0 : Int) := by omega
      go_upto_region 5 with fail
      rw [hkk]
      clear hkk hrm1 hrm2 hm0
      go_cut [11, 12, 13] (fun x y z wx => Ap5 l k w2 x y z wx)
      case first =>
        go_region_held3 (fun _ => True) (trivial) (first
          | (go_at_call 15; refine (HI.out _ (by repeat (first | exact Fr.refl _ _ | refine Fr.alloc ?_ _ | refine Fr.drew ?_ | refine Fr.drewN ?_ _))).mono ?_; rintro e w5 ⟨A5, c5, rfl, o5, f5⟩; have K5 := Lib.hid f5; have O5 := Lib.hid o5; have F5 : Hid (Fr No w2 w5) := Lib.hid (Fr.transNo (by repeat (first | exact Fr.refl _ _ | refine Fr.alloc ?_ _ | refine Fr.drew ?_ | refine Fr.drewN ?_ _)) f5); clear o5 f5)
          | (go_at_call 21; refine (HT.out _ (by repeat (first | exact F5.out | refine Fr.alloc ?_ _ | refine Fr.drew ?_ | refine Fr.drewN ?_ _))).mono ?_; rintro e w6 ⟨A6, c6, rfl, o6, f6⟩; have K6 := Lib.hid f6; have O6 := Lib.hid o6; have F6 : Hid (Fr No w2 w6) := Lib.hid (Fr.transNo (by repeat (first | exact F5.out | refine Fr.alloc ?_ _ | refine Fr.drew ?_ | refine Fr.drewN ?_ _)) f6); have P5 := Lib.hid (O5.out.frNo (Fr.transNo (by repeat (first | exact Fr.refl _ _ | refine Fr.alloc ?_ _ | refine Fr.drew ?_ | refine Fr.drewN ?_ _)) f6)); clear o6 f6 O5 F5)
          | (go_at_call 23; refine (HZ.out _ _ (by repeat (first | exact F6.out | refine Fr.alloc ?_ _ | refine Fr.drew ?_ | refine Fr.drewN ?_ _)) (by first | exact (Rd.new _ [.int .i64 a2] 3 rfl).mono (by simp) | exact ((Rd.new _ [.int .i64 a2] 3 rfl).frNo K6.out (by simp)).mono (by simpa using K6.out.size) | exact ((Rd.frNo (w := (w2.alloc (.cells #[.int .i64 a2] 3)).drew) (Rd.new w2 [.int .i64 a2] 3 rfl) K5.out (by simp)).frNo K6.out (by simpa using K5.out.size)).mono (Nat.le_trans (by simpa using K5.out.size) K6.out.size))).mono ?_; rintro e w7 ⟨A7, c7, rfl, o7, f7⟩; have O7 := Lib.hid o7; have F7 : Hid (Fr No w2 w7) := Lib.hid (Fr.transNo (by repeat (first | exact F6.out | refine Fr.alloc ?_ _ | refine Fr.drew ?_ | refine Fr.drewN ?_ _)) f7); have G7 : Hid (Fr No w6 w7) := Lib.hid (Fr.transNo (by repeat (first | exact Fr.refl _ _ | refine Fr.alloc ?_ _ | refine Fr.drew ?_ | refine Fr.drewN ?_ _)) f7); clear o7 f7))
        all_goals
          go_wp2_with fail
          go_meet
          exact ⟨⟨A5, _, c5, rfl, by omega, P5.out.cap.1, own_none P5.out, own_front (P5.out.frNo G7.out) HTK.out⟩, ⟨A6, _, c6, rfl, by omega, O6.out.cap.1, own_none O6.out, own_front (O6.out.frNo G7.out) HTK.out⟩, ⟨A7, _, c7, rfl, by omega, O7.out.cap.1, own_none O7.out, own_front O7.out HTK.out⟩, F7.out⟩
      case rest =>
        obtain ⟨⟨A5, n5, c5, rfl, k5, kc5, an5, r5⟩, ⟨A6, n6, c6, rfl, k6, kc6, an6, r6⟩, ⟨A7, n7, c7, rfl, k7, kc7, an7, r7⟩, f7⟩ := hcut
        obtain ⟨w7, rfl⟩ : ∃ w7 : World, w7 = wc := ⟨_, rfl⟩
        have hbS : ∀ (W : World) (A : Option Addr) (c : Nat), Fr No w7 W → (A = none → k = 0) → Rd w7 w7.heap.size A ((l.take k).map bv) → Calls Try.prog 14 #[.slice A k c, .slice A2 k c2] W fun e w' => e = .returned (.bool true) ∧ W = w' := by
          intro W A c hW hA hR
          have := same_bytes A A2 k c k c2 (l.take k) (l.take k) _ _ W hA HTK.out (hR.frNo hW (Nat.le_refl _)) (own_none2 O2.out hkm) HTK.out (own_take ((O2.out.frNo f7).frNo hW) k)
          rwa [beq_self_eq_true] at this
        have hbB : ∀ W : World, Fr No w7 W → Calls Try.prog 14 #[.slice a0 len0 cap0, .slice A2 len0 c2] W fun e w' => e = .returned (.bool true) ∧ W = w' := by
          intro W hW
          have := same_bytes a0 A2 len0 cap0 len0 c2 l l _ _ W HN.out HL.out (HR.out.frNo ((F2.out.transNo f7).transNo hW) (Nat.le_refl _)) O2.out.len.2 HL.out ((O2.out.frNo f7).frNo hW).rd
          rwa [beq_self_eq_true] at this
        have hbX : ∀ W : World, Fr No w7 W → Calls Try.prog 14 #[.slice A5 k c5, .slice A2 k c2] W fun e w' => e = .returned (.bool true) ∧ W = w' := fun W hW => hbS W A5 c5 hW an5 r5
        have hbY : ∀ W : World, Fr No w7 W → Calls Try.prog 14 #[.slice A6 k c6, .slice A2 k c2] W fun e w' => e = .returned (.bool true) ∧ W = w' := fun W hW => hbS W A6 c6 hW an6 r6
        have hbZ : ∀ W : World, Fr No w7 W → Calls Try.prog 14 #[.slice A7 k c7, .slice A2 k c2] W fun e w' => e = .returned (.bool true) ∧ W = w' := fun W hW => hbS W A7 c7 hW an7 r7
        have G8 := Lib.hid (F2.out.transNo f7)
        have HBX := Lib.hid hbX
        have HBY := Lib.hid hbY
        have HBZ := Lib.hid hbZ
        have HBB := Lib.hid hbB
        clear hbX hbY hbZ hbB
        clear hbS HI HT HZ O2 HR HN an5 r5 an6 r6 an7 r7 f7 F2
        have q5 : k ≤ c5 := by omega
        have q6 : k ≤ c6 := by omega
        have q7 : k ≤ c7 := by omega
        have t5 : decide ((k : Int) < (n5 : Int)) = true := by simp; omega
        have t6 : decide ((k : Int) < (n6 : Int)) = true := by simp; omega
        have t7 : decide ((k : Int) < (n7 : Int)) = true := by simp; omega
        have u5 : decide (k < n5) = true := by simp; omega
        have u6 : decide (k < n6) = true := by simp; omega
        have u7 : decide (k < n7) = true := by simp; omega
        have i5 : (k : Int) ≤ (c5 : Int) := by omega
        have i6 : (k : Int) ≤ (c6 : Int) := by omega
        have i7 : (k : Int) ≤ (c7 : Int) := by omega
        have i2 : (k : Int) ≤ (c2 : Int) := by omega
        go_wp2_with fail
        go_region_held3 (fun _ => True) (trivial) (first
          | (go_at_call 13; refine (awake1_any _).mono ?_; rintro e w8 ⟨rfl, f8⟩; have F8 : Hid (Fr No w7 w8) := Lib.hid (Fr.transNo (by repeat (first | exact Fr.refl _ _ | refine Fr.drew ?_ | refine Fr.drewN ?_ _)) f8); clear f8)
          | (go_at_call 14; ((with_reducible refine (HBB.out _ (by repeat (first | exact F8.out | refine Fr.drew ?_ | refine Fr.drewN ?_ _))).mono ?_)); rintro e w9 ⟨rfl, rfl⟩)
          | (go_at_call 14; ((with_reducible refine (HBX.out _ (by repeat (first | exact F8.out | refine Fr.drew ?_ | refine Fr.drewN ?_ _))).mono ?_)); rintro e w9 ⟨rfl, rfl⟩)
          | (go_at_call 14; ((with_reducible refine (HBY.out _ (by repeat (first | exact F8.out | refine Fr.drew ?_ | refine Fr.drewN ?_ _))).mono ?_)); rintro e w9 ⟨rfl, rfl⟩)
          | (go_at_call 14; ((with_reducible refine (HBZ.out _ (by repeat (first | exact F8.out | refine Fr.drew ?_ | refine Fr.drewN ?_ _))).mono ?_)); rintro e w9 ⟨rfl, rfl⟩))
        go_wp2_with fail
        go_ret
        exact ⟨ret_bool rfl, (G8.out.transNo F8.out).belowNo⟩
    · go_enter Try.func10, Try.ntmps10
      go_wp2_with fail
      refine (few1_yes _ (by omega) _).mono ?_
      rintro e w1 ⟨rfl, rfl⟩
      go_wp2_with fail
      refine (few1_no _ (by omega) _).mono ?_
      rintro e w1 ⟨rfl, rfl⟩
      go_wp2_with fail
      refine (awake1_any _).mono ?_
      rintro e w2 ⟨rfl, f2⟩
      have F2 := Lib.hid f2
      clear f2
      go_wp2_with fail
      go_ret
      exact ⟨ret_bool rfl, F2.out.belowNo⟩
  · go_enter Try.func10, Try.ntmps10
    go_wp2_with fail
    refine (few1_no _ (by omega) _).mono ?_
    rintro e w1 ⟨rfl, rfl⟩
    go_wp2_with fail
    refine (awake1_any _).mono ?_
    rintro e w2 ⟨rfl, f2⟩
    have F2 := Lib.hid f2
    clear f2
    go_wp2_with fail
    go_ret
    exact ⟨ret_bool rfl, F2.out.belowNo⟩
end Go.Proofs.Ytjplcnjegajhpaa
