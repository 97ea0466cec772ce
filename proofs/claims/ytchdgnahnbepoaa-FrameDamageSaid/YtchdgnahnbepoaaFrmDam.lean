/-
  The walks of FrameDamage and FrameBack.
-/
import Derived.Test.YtchdgnahnbepoaaFrmLaws
namespace Go.Proofs.Ytchdgnahnbepoaa
open Go.ChangeShapes Go.WideShapes Go.ChangeAt Go.RowKit

theorem own_stored {w : World} {F : Nat → Prop} {e : TypeId} {b n c : Nat} {xs : List Value} (h : Own w F e (.slice (some ⟨b, 0, none⟩) n c) xs) (k : Nat) (u : Value) :
    Own (w.setCell ⟨b, k, none⟩ u) F e (.slice (some ⟨b, 0, none⟩) n c) (xs.set k u) ∧ Fr F w (w.setCell ⟨b, k, none⟩ u) := by
  obtain ⟨rfl, _⟩ := h.len
  refine ⟨⟨?_, h.2⟩, (Fr.refl F w).setCell (p := ⟨b, k, none⟩) (.inl (h.2 b rfl)) u⟩
  have := (h.1.stored k u).1
  rwa [List.length_set]

/-- One byte of a frame behind its length. -/
theorem damage_all (key : Int) (p : List UInt8) (h : p.length ≤ 65536) (j : Nat) (hj : j < 8 + p.length) (c : UInt8) :
    ∃ q : Nat, (q : Int) = ((putN key p).length : Int) - ((p.length : Int) + 8) + (j : Int) ∧ ∃ hq : q < (putN key p).length,
      takeFr key ((putN key p).set q c) = if (putN key p)[q] = c then ⟨p, (putN key p).length, 0⟩ else frmE 18 := by
  have hP : putN key p = encN (codeN (p.length : Int)) ++ (leN 8 (sumI key p).toNat ++ p) := by
    unfold putN headN
    rw [if_pos h, List.append_assoc]
  have hlen : (putN key p).length = (encN (codeN (p.length : Int))).length + (8 + p.length) := by rw [hP]; simp only [List.length_append, leN_length]
  refine ⟨(encN (codeN (p.length : Int))).length + j, by omega, by omega, ?_⟩
  have hget : (putN key p)[(encN (codeN (p.length : Int))).length + j]'(by omega) = (leN 8 (sumI key p).toNat ++ p)[j]'(by rw [List.length_append, leN_length]; exact hj) := by
    simp only [hP]
    rw [List.getElem_append_right (by omega)]
    congr 1
    omega
  rw [hget]
  by_cases he : (leN 8 (sumI key p).toNat ++ p)[j]'(by rw [List.length_append, leN_length]; exact hj) = c
  · rw [if_pos he]
    have : (putN key p).set ((encN (codeN (p.length : Int))).length + j) c = putN key p := by
      rw [← he, ← hget, List.set_getElem_self]
    rw [this]
    have := takeFr_put key p [] h
    rwa [List.append_nil] at this
  · rw [if_neg he, ← takeFr_damage key p h j hj c he]
    congr 1
    rw [hP, List.set_append_right _ _ (by omega)]
    congr 2
    omega

set_option maxHeartbeats 1000000 in
theorem FrameDamage_walk (a0 : Int) (a1 : Option Addr) (len1 cap1 : Nat) (z1 : List Int) (a2 : Int) (a3 : Int) (w : World) (_w0 : (Lit.int .i64 a0).wf = true) (w1 : IsRow .u8 w a1 len1 cap1 z1) (_w2 : (Lit.int .i64 a2).wf = true) (w3 : (Lit.int .u8 a3).wf = true) (_s1 : cap1 * 1 ≤ 140737488351232) :
    Calls Try.prog 6 #[.int .i64 a0, .slice a1 len1 cap1, .int .i64 a2, .int .u8 a3] w fun e w' => e = .returned (.bool true) ∧ Below w.heap.size w w' := by
  obtain ⟨p, hp, -, -, hn, hr⟩ := w1.open_
  have b3 := bounds_u8 w3
  obtain ⟨c, rfl⟩ : ∃ c : UInt8, a3 = (c.toNat : Int) := ⟨UInt8.ofNat a3.toNat, by rw [UInt8.toNat_ofNat']; omega⟩
  have HP := Lib.hid hp
  have HN := Lib.hid hn
  have HR := Lib.hid hr
  clear w1 w3 hp hn hr b3
  by_cases hs : len1 ≤ 300
  · have ht : decide ((300 : Int) < (len1 : Int)) = false := by simp; omega
    have hpl : p.length ≤ 65536 := by rw [HP.out]; omega
    have hlen := putN_len a0 p hpl
    have hrm1 := Int.lt_tmod_of_pos a2 (b := (len1 : Int) + 8) (by omega)
    have hrm2 := Int.tmod_lt_of_pos a2 (b := (len1 : Int) + 8) (by omega)
    obtain ⟨j, hj⟩ : ∃ j : Nat, (a2.tmod ((len1 : Int) + 8) + ((len1 : Int) + 8)) % ((len1 : Int) + 8) = (j : Int) :=
      ⟨((a2.tmod ((len1 : Int) + 8) + ((len1 : Int) + 8)) % ((len1 : Int) + 8)).toNat, (Int.toNat_of_nonneg (Int.emod_nonneg _ (by omega))).symm⟩
    have hjl : j < 8 + p.length := by
      have := Int.emod_lt_of_pos (a2.tmod ((len1 : Int) + 8) + ((len1 : Int) + 8)) (b := (len1 : Int) + 8) (by omega)
      rw [HP.out]
      omega
    obtain ⟨q, hq1, hq2, hq3⟩ := damage_all a0 p hpl j hjl c
    rw [HP.out] at hlen hq1
    generalize hP : putN a0 p = P at *
    have HPP := Lib.hid hP
    clear hP
    obtain ⟨m, hm⟩ : ∃ m, m = P.length := ⟨_, rfl⟩
    rw [← hm] at hlen hq1
    have hqm : q < m := by rw [hm]; exact hq2
    have hidx : (m : Int) - ((len1 : Int) + 8) + (j : Int) = (q : Int) := hq1.symm
    have HM := Lib.hid hm
    have TK := Lib.hid hq3
    have hme : decide ((m : Int) ≤ (len1 : Int) + 8) = false := by simp; omega
    clear hm hq3 hq1 hjl
    go_enter Try.func6, Try.ntmps6
    go_wp2_with fail
    refine (put_short none 0 0 a0 a1 len1 cap1 [] p _ w.heap.size (fun _ => rfl) rfl Rd.nil HN.out HP.out HR.out (Nat.le_refl _) (by omega) (by omega)).mono ?_
    rintro e w1 ⟨A1, c1, rfl, o1, f1⟩
    rw [List.nil_append, HPP.out, ← HM.out] at o1
    rw [List.nil_append, HPP.out, ← HM.out]
    have hcap : m ≤ c1 := o1.cap.1
    obtain ⟨b, rfl, hb1, hb2, hcell⟩ := own_head o1 (by omega)
    obtain ⟨hc1, hf1⟩ := hcell q (by rw [List.length_map]; exact hq2)
    simp only [List.getElem_map] at hc1
    obtain ⟨o2, f2⟩ := own_stored o1 q (bv c)
    rw [← List.map_set] at o2
    have O2 := Lib.hid o2
    have F2 := Lib.hid (f1.transNew f2 fun i hi => hi)
    have HSL : Hid ((P.set q c).length = m) := by
      show (P.set q c).length = m
      rw [List.length_set]
      exact HM.out.symm
    clear o1 f1 o2 f2 hcell hb1 hb2
    go_wp2_with fail
    refine (frtake_any _ m c1 a0 (P.set q c) _ _ (fun h => by cases h) HSL.out O2.out.rd (by omega) hcap).mono ?_
    rintro e w3 ⟨A3, c3, rfl, o3, f3⟩
    have F3 := Lib.hid (F2.out.transNo f3)
    clear o3 f3 O2 F2 hc1 hf1
    by_cases he : P[q] = c
    · rw [TK.out, if_pos he]
      have t1 : ((P[q].toNat : Int) == (c.toNat : Int)) = true := by rw [he]; simp
      clear he
      go_wp2_with fail
      refine (awake3_any _).mono ?_
      rintro e w4 ⟨rfl, f4⟩
      have F4 := Lib.hid (F3.out.transNo f4)
      clear f4
      go_wp2_with fail
      go_ret
      exact ⟨ret_bool (by simp), F4.out.belowNo⟩
    · rw [TK.out, if_neg he]
      have t1 : ((P[q].toNat : Int) == (c.toNat : Int)) = false := by
        simp only [beq_eq_false_iff_ne, ne_eq, Int.natCast_inj]
        exact fun h => he (UInt8.toNat_inj.1 h)
      clear he
      simp only [frmE]
      go_wp2_with fail
      refine (awake3_any _).mono ?_
      rintro e w4 ⟨rfl, f4⟩
      have F4 := Lib.hid (F3.out.transNo f4)
      clear f4
      go_wp2_with fail
      go_ret
      exact ⟨ret_bool (by simp), F4.out.belowNo⟩
  · have ht : decide ((300 : Int) < (len1 : Int)) = true := by simp; omega
    go_enter Try.func6, Try.ntmps6
    go_wp2_with fail
    refine (awake3_any _).mono ?_
    rintro e w3 ⟨rfl, f3⟩
    have F3 := Lib.hid f3
    clear f3
    go_wp2_with fail
    go_ret
    exact ⟨ret_bool (by simp), F3.out.belowNo⟩

set_option maxHeartbeats 1000000 in
theorem FrameBack_walk (a0 : Int) (a1 : Option Addr) (len1 cap1 : Nat) (z1 : List Int) (a2 : Option Addr) (len2 cap2 : Nat) (z2 : List Int) (w : World) (_w0 : (Lit.int .i64 a0).wf = true) (w1 : IsRow .u8 w a1 len1 cap1 z1) (w2 : IsRow .u8 w a2 len2 cap2 z2) (_s1 : cap1 ≤ 1048576) (s2 : cap2 ≤ 1048576) :
    Calls Try.prog 5 #[.int .i64 a0, .slice a1 len1 cap1, .slice a2 len2 cap2] w fun e w' => e = .returned (.bool true) ∧ Below w.heap.size w w' := by
  obtain ⟨p, hp, -, hc1, hn, hr⟩ := w1.open_
  obtain ⟨l, hl, -, hc2, hn2, hr2⟩ := w2.open_
  obtain ⟨i0, hi0, hz0, hz1, hz2⟩ := info_parts bytes_info
  have HP := Lib.hid hp
  have HN := Lib.hid hn
  have HR := Lib.hid hr
  have HL := Lib.hid hl
  have HN2 := Lib.hid hn2
  have HR2 := Lib.hid hr2
  clear w1 w2 hp hn hr hl hn2 hr2
  by_cases hs : len1 ≤ 65536
  · have ht : decide ((65536 : Int) < (len1 : Int)) = false := by simp; omega
    have hpl : p.length ≤ 65536 := by rw [HP.out]; omega
    have hlen := putN_len a0 p hpl
    have TK := Lib.hid (takeFr_put a0 p l hpl)
    rw [HP.out] at hlen
    generalize hP : putN a0 p = P at *
    have HPP := Lib.hid hP
    clear hP
    go_enter Try.func5, Try.ntmps5
    go_wp2_with fail
    refine (put_short none 0 0 a0 a1 len1 cap1 [] p _ w.heap.size (fun _ => rfl) rfl Rd.nil HN.out HP.out HR.out (Nat.le_refl _) (by omega) (by omega)).mono ?_
    rintro e w1 ⟨A1, c1, rfl, o1, f1⟩
    rw [List.nil_append, HPP.out] at o1
    rw [List.nil_append, HPP.out]
    have O1 := Lib.hid o1
    have F1 := Lib.hid f1
    have hsz1 : w.heap.size ≤ w1.heap.size := f1.size
    clear o1 f1
    go_wp2_with (at_builtin; refine wpList_append_rd _ rfl (.tmp 26) (.tmp 27) _ rfl 0 5 i0 _ 1 Try.underlying22 hi0 hz0 hz1 hz2 rfl _ 0 [] rfl (Own.made w1 5).1 w1.heap.size A1 P.length c1 (P.map bv) rfl ?c1 ?c2 ?c3 (bv_one P) ?c4 ?c5 (Nat.zero_le _) ?_)
    case c1 => exact O1.out.len.2
    case c2 => exact O1.out.rd.frNo (fr_alloc _ _) (Nat.le_refl _)
    case c3 => rw [List.length_map]
    case c4 => unfold maxLen; omega
    case c5 => omega
    intro v2 w2 happ
    obtain ⟨o2, f2⟩ := (Own.made w1 5).appendedNew (by simp) rfl (by rw [List.length_map]) happ
    rw [List.nil_append] at o2
    have FF := Lib.hid ((fr_alloc w1 (.cells #[] 5)).transNew f2 fun i hi => hi)
    obtain ⟨A2, c2, rfl, n2⟩ := o2.form
    rw [List.length_map] at o2 ⊢
    have O2 := Lib.hid o2
    have hsz2 : w1.heap.size ≤ w2.heap.size := FF.out.size
    clear happ o2 f2 n2
    go_wp2_with (at_builtin; refine wpList_append_rd _ rfl (.tmp 28) (.tmp 29) _ rfl 0 5 i0 _ 1 Try.underlying22 hi0 hz0 hz1 hz2 rfl _ P.length (P.map bv) rfl ?d0 w.heap.size a2 len2 cap2 (l.map bv) rfl ?d1 ?d2 ?d3 (bv_one l) ?d4 ?d5 (Nat.zero_le _) ?_)
    case d0 => exact O2.out.own (by rw [List.length_map])
    case d1 => exact HN2.out
    case d2 => exact HR2.out.frNo (F1.out.transNo FF.out) (Nat.le_refl _)
    case d3 => rw [List.length_map, HL.out]
    case d4 => unfold maxLen; omega
    case d5 => omega
    intro v3 w3 happ
    obtain ⟨o3, f3⟩ := O2.out.appendedNew hsz2 (by rw [List.length_map]) (by rw [List.length_map, HL.out]) happ
    rw [← List.map_append] at o3
    have G3 := Lib.hid (F1.out.transNo (FF.out.transNew f3 fun i hi => hi))
    obtain ⟨A3, c3, rfl, n3⟩ := o3.form
    rw [List.length_map, List.length_append, HL.out] at o3 ⊢
    have O3 := Lib.hid o3
    have hcap : P.length + len2 ≤ c3 := o3.cap.1
    clear happ o3 f3 n3 FF F1 O2 O1
    go_wp2_with fail
    refine (frtake_any _ _ _ a0 (P ++ l) _ _ O3.out.len.2 (by rw [List.length_append, HL.out]) O3.out.rd (by omega) hcap).mono ?_
    rintro e w4 ⟨A4, c4, rfl, o4, f4⟩
    rw [TK.out] at o4 ⊢
    have O4 := Lib.hid o4
    have F4 := Lib.hid (G3.out.transNo f4)
    clear o4 f4 O3 G3
    have hself : (p == p) = true := by simp
    go_wp2_with fail
    refine (awake3_any _).mono ?_
    rintro e w5 ⟨rfl, f5⟩
    have O5 := Lib.hid (O4.out.frNo f5)
    have F5 := Lib.hid (F4.out.transNo f5)
    clear f5 O4 F4
    go_wp2_with fail
    refine (same_bytes _ _ _ _ _ _ p p _ _ _ HN.out HP.out (HR.out.frNo F5.out (Nat.le_refl _)) O5.out.len.2 rfl O5.out.rd).mono ?_
    rintro e w6 ⟨rfl, rfl⟩
    go_wp2_with fail
    go_ret
    exact ⟨ret_bool (by simp), F5.out.belowNo⟩
  · have ht : decide ((65536 : Int) < (len1 : Int)) = true := by simp; omega
    go_enter Try.func5, Try.ntmps5
    go_wp2_with fail
    refine (awake3_any _).mono ?_
    rintro e w3 ⟨rfl, f3⟩
    have F3 := Lib.hid f3
    clear f3
    go_wp2_with fail
    refine (put_long none 0 0 a0 a1 len1 cap1 [] _ 0 (fun _ => rfl) rfl Rd.nil (by omega) (by omega)).mono ?_
    rintro e w4 ⟨A4, c4, rfl, o4, f4⟩
    have F4 := Lib.hid (F3.out.transNo f4)
    clear o4 f4
    go_wp2_with fail
    go_ret
    exact ⟨ret_bool (by simp), F4.out.belowNo⟩
end Go.Proofs.Ytchdgnahnbepoaa
