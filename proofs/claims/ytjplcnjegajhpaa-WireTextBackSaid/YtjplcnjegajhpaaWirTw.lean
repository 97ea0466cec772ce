/-
  The walks of WireTakeLists and WireTextBack.
-/
import Derived.Test.YtjplcnjegajhpaaWirTl
import Derived.Test.YtjplcnjegajhpaaWirLR
import Derived.Test.YtjplcnjegajhpaaWirTk
namespace Go.Proofs.Ytjplcnjegajhpaa
open Go.ChangeShapes Go.WideShapes Go.ChangeAt Go.RowKit
set_option linter.unusedVariables false

set_option maxRecDepth 100000 in
set_option maxHeartbeats 2000000 in
theorem WireTakeLists_walk (a0 : Option Addr) (len0 cap0 : Nat) (z0 : List Int) (a1 : Int) (w : World) (w0 : IsRow .u8 w a0 len0 cap0 z0) (w1 : (Lit.int .i64 a1).wf = true) (_s0 : cap0 * 1 ≤ 140737488351232) :
    Calls Try.prog 11 #[.slice a0 len0 cap0, .int .i64 a1] w fun e w' => e = .returned (.bool true) ∧ Below w.heap.size w w' := by
  obtain ⟨l, hl, hm, hlc, hn, hr⟩ := w0.open_
  obtain ⟨i0, hi0, hz0, hz1, hz2⟩ := info_parts bytes_info
  have b1 := bounds_i64 w1
  have HL := Lib.hid hl
  have HN := Lib.hid hn
  have HR := Lib.hid hr
  clear hl hn hr
  clear w0 w1
  by_cases h0 : len0 ≤ 300
  · go_enter Try.func11, Try.ntmps11
    go_wp2_with fail
    refine (few1_yes _ (by omega) _).mono ?_
    rintro e w1 ⟨rfl, rfl⟩
    go_wp2_with fail
    go_loopw [0, 5] (fun b i wr => ∃ (k : Nat) (A : Option Addr) (n c : Nat) (l : List UInt8), k ≤ 2 ∧ i = .int .i64 k ∧ b = .slice A n c ∧ (A = none → n = 0) ∧ l.length = n ∧ n ≤ c ∧ n ≤ 300 + 10 * k ∧ Rd wr wr.heap.size A (l.map bv) ∧ Fr No w wr) (fun _ i _ => 2 - (intOf i).toNat)
    case atStart => exact ⟨0, a0, len0, cap0, l, by omega, rfl, rfl, HN.out, HL.out, hlc, by omega, HR.out, Fr.refl _ _⟩
    case round =>
      clear HL HN HR l hlc h0 hm
      obtain ⟨k, A, n, c, l, hk, rfl, rfl, hA, hl, hnc, hn, hr, hf⟩ := hrel
      have hM : n ≤ maxLen := by unfold maxLen; omega
      by_cases hlt : k < 2
      · have hC1 := ttext_any A n c l wr wr.heap.size hA hl hM hnc hr
        have hC2 := rttext_any A n c l wr wr.heap.size hA hl hM hnc hr
        have hC3 := tints_any A n c l wr wr.heap.size hA hl hM hnc hr (Nat.le_refl _)
        have hC4 : ∀ W : World, Fr No wr W → Calls Try.prog 28 #[.slice A n c] W (TInts W (intsT l)) := fun W hW => rtints_any A n c l W wr.heap.size hA hl hM hnc (hr.frNo hW (Nat.le_refl _)) hW.size
        generalize textT l = T at *
        generalize intsT l = I at *
        have t1 : (T.s.toArray == T.s.toArray) = true := by simp
        have HA := Lib.hid hA
        have HL := Lib.hid hl
        have HR := Lib.hid hr
        have HF := Lib.hid hf
        have HC1 := Lib.hid hC1
        have HC2 := Lib.hid hC2
        have HC3 := Lib.hid hC3
        have HC4 := Lib.hid hC4
        clear hA hl hr hf hC1 hC2 hC3 hC4
        go_wp2_with fail
        refine HC1.out.mono ?_
        rintro e w2 ⟨rfl, rfl⟩
        go_wp2_with fail
        refine HC2.out.mono ?_
        rintro e w2 ⟨rfl, rfl⟩
        go_wp2_with fail
        refine HC3.out.mono ?_
        rintro e w2 ⟨A2, c2, rfl, o2, f2⟩
        have O2 := Lib.hid o2
        have F2 := Lib.hid f2
        clear o2 f2
        go_wp2_with fail
        refine (HC4.out _ F2.out).mono ?_
        rintro e w3 ⟨A3, c3, rfl, o3, f3⟩
        have P2 := Lib.hid (O2.out.frNo f3)
        have G3 := Lib.hid (F2.out.transNo f3)
        have O3 := Lib.hid o3
        have F3 := Lib.hid f3
        clear o3 f3
        go_wp2_with fail
        refine (same_ints A2 A3 _ c2 _ c3 I.q I.q _ _ _ rfl P2.out.rd rfl O3.out.rd (by have := O3.out.cap; omega)).mono ?_
        rintro e w4 ⟨rfl, j, rfl⟩
        rw [beq_self_eq_true]
        have G4 := Lib.hid (G3.out.drewN j)
        have R4 := Lib.hid ((HR.out.frNo G4.out (Nat.le_refl _)).mono G4.out.size)
        have F4 := Lib.hid (HF.out.transNo G4.out)
        clear HC1 HC2 HC3 HC4 O2 F2 O3 F3 P2 G3
        go_wp2_with fail
        refine (rint_any none 0 0 a1 [] _ 0 (fun _ => rfl) rfl Rd.nil (Nat.zero_le _) b1.1 b1.2 (by omega)).mono ?_
        rintro e w5 ⟨A5, c5, rfl, o5, f5⟩
        rw [List.nil_append, Nat.zero_add] at o5
        rw [Nat.zero_add]
        have hen := encN_len10 _ (codeN_lt a1 b1.1 b1.2)
        generalize encN (codeN a1) = en at *
        have R5 := Lib.hid ((R4.out.frNo f5 (Nat.le_refl _)))
        have G5 := Lib.hid (F4.out.transNo f5)
        have hs5 := f5.size
        have O5 := Lib.hid o5
        have F5 := Lib.hid f5
        clear o5 f5
        go_wp2_with (at_builtin; refine wpList_append_rd _ rfl (.tmp 81) (.tmp 82) _ rfl 0 5 i0 _ 1 Try.underlying22 hi0 hz0 hz1 hz2 rfl _ (en.length) (en.map bv) rfl ?k3a (w3.heap.size) (A) (n) (c) (l.map bv) rfl ?k3b ?k3c ?k3d (bv_one _) ?k3e ?k3f (Nat.zero_le _) ?_)
        case k3a => exact (O5.out.own (by rw [List.length_map]))
        case k3b => exact HA.out
        case k3c => exact R5.out
        case k3d => exact (by rw [List.length_map, HL.out])
        case k3e => unfold maxLen; omega
        case k3f => omega
        intro v6 w6 happ
        obtain ⟨o6, f6⟩ := O5.out.appendedNew hs5 (by rw [List.length_map]) (by rw [List.length_map, HL.out]) happ
        rw [← List.map_append] at o6
        obtain ⟨A6, c6, rfl, n6⟩ := o6.form
        have e6 : ((en ++ l).map bv).length = en.length + n := by rw [List.length_map, List.length_append, HL.out]
        rw [e6] at o6 n6 ⊢
        have hc6 := o6.cap.1
        have R6 := Lib.hid (o6.rd)
        have F6 := Lib.hid (G5.out.transNew f6 fun i hi => Nat.le_trans (F4.out.size) hi)
        have N6 := Lib.hid n6
        clear n6
        clear o6 f6 happ R4 R5 O5 F5 G5 F4 G4
        go_wp2_with fail
        go_roundw
        case rel => exact ⟨k + 1, A6, en.length + n, c6, en ++ l, by omega, by go_num, rfl, N6.out, by rw [List.length_append, HL.out], hc6, by omega, R6.out, F6.out⟩
        case measure => simp [intOf]; omega
      · go_wp2_with fail
        refine (awake1_any _).mono ?_
        rintro e w3 ⟨rfl, f3⟩
        go_wp2_with fail
        go_ret
        exact ⟨ret_bool rfl, (hf.transNo f3).belowNo⟩
  · go_enter Try.func11, Try.ntmps11
    go_wp2_with fail
    refine (few1_no _ (by omega) _).mono ?_
    rintro e w1 ⟨rfl, rfl⟩
    go_wp2_with fail
    refine (awake1_any _).mono ?_
    rintro e w2 ⟨rfl, f2⟩
    go_wp2_with fail
    go_ret
    exact ⟨ret_bool rfl, f2.belowNo⟩

set_option maxHeartbeats 2000000 in
theorem WireTextBack_walk (a0 : ByteArray) (a1 : Option Addr) (len1 cap1 : Nat) (z1 : List Int) (a2 : Option Addr) (len2 cap2 : Nat) (z2 : List Int) (w : World) (w0 : a0.size ≤ maxLen) (w1 : IsRow .i64 w a1 len1 cap1 z1) (w2 : IsRow .u8 w a2 len2 cap2 z2) (s0 : a0.size ≤ 140737488351232) (s1 : cap1 * 8 ≤ 140737488351232) (s2 : cap2 * 1 ≤ 140737488351232) :
    Calls Try.prog 12 #[.string a0, .slice a1 len1 cap1, .slice a2 len2 cap2] w fun e w' => e = .returned (.bool true) ∧ Below w.heap.size w w' := by
  obtain ⟨q, hq, -, hqc, hqn, hqr, hqb⟩ := w1.openI
  obtain ⟨l, hl, -, hlc, hn, hr⟩ := w2.open_
  obtain ⟨i0, hi0, hz0, hz1, hz2⟩ := info_parts bytes_info
  clear w0 w1 w2
  by_cases h0 : a0.size ≤ 65536
  · by_cases h1 : len1 ≤ 65536
    · have t0 : decide ((65536 : Int) < (a0.size : Int)) = false := by simp; omega
      have t1 : decide ((65536 : Int) < (len1 : Int)) = false := by simp; omega
      have htb := textT_back a0.data.toList l (by simpa using h0)
      have hib := intsT_back q l (by rw [hq]; exact h1) hqb
      have htl : (textN a0.data.toList).length ≤ 65556 := by
        have h5 := encN_len10 _ (codeN_lt (a0.size : Int) (by omega) (by omega))
        have h6 : (textN a0.data.toList).length = (encN (codeN (a0.size : Int))).length + a0.size := by unfold textN; rw [List.length_append]; rfl
        omega
      have hil : (intsN q).length ≤ 655376 := by
        have := encN_len10 _ (codeN_lt (q.length : Int) (by omega) (by omega))
        have h2 := intsF_len q hqb
        unfold intsN
        rw [List.length_append]
        omega
      generalize hX : textN a0.data.toList = X at *
      generalize hY : intsN q = Y at *
      have HQ := Lib.hid hq
      have HQN := Lib.hid hqn
      have HQR := Lib.hid hqr
      have HQB := Lib.hid hqb
      have HL := Lib.hid hl
      have HN := Lib.hid hn
      have HR := Lib.hid hr
      have HTB := Lib.hid htb
      have HIB := Lib.hid hib
      have HX := Lib.hid hX
      have HY := Lib.hid hY
      clear hq hqn hqr hqb hl hn hr htb hib hX hY
      go_enter Try.func12, Try.ntmps12
      go_wp2_with fail
      refine (text_any none 0 0 a0 [] _ 0 (fun _ => rfl) rfl Rd.nil (Nat.zero_le _) (by omega)).mono ?_
      rintro e w1 ⟨A1, c1, rfl, o1, f1⟩
      rw [List.nil_append, Nat.zero_add, HX.out] at o1
      rw [Nat.zero_add, HX.out]
      have O1 := Lib.hid o1
      have F1 := Lib.hid f1
      clear o1 f1
      go_wp2_with fail
      refine (ints_any none 0 0 a1 len1 cap1 q [] _ 0 w.heap.size (fun _ => rfl) rfl Rd.nil (Nat.zero_le _) HQN.out HQ.out (HQR.out.frNo F1.out (Nat.le_refl _)) F1.out.size HQB.out (by omega)).mono ?_
      rintro e w2 ⟨A2, c2, rfl, o2, f2⟩
      rw [List.nil_append, Nat.zero_add, HY.out] at o2
      rw [Nat.zero_add, HY.out]
      have P1 := Lib.hid (O1.out.frNo f2)
      have G2 := Lib.hid (F1.out.transNo f2)
      have O2 := Lib.hid o2
      have F2 := Lib.hid f2
      clear o2 f2
      have hs2 := G2.out.size
      go_wp2_with (at_builtin; refine wpList_append_rd _ rfl (.tmp 29) (.tmp 30) _ rfl 0 5 i0 _ 1 Try.underlying22 hi0 hz0 hz1 hz2 rfl _ (0) ([]) rfl ?k4a (w2.heap.size) (A1) (X.length) (c1) (X.map bv) rfl ?k4b ?k4c ?k4d (bv_one _) ?k4e ?k4f (Nat.zero_le _) ?_)
      case k4a => exact (Own.made w2 5).1
      case k4b => exact P1.out.len.2
      case k4c => exact (P1.out.rd.frNo (fr_alloc _ _) (Nat.le_refl _))
      case k4d => exact (by rw [List.length_map])
      case k4e => unfold maxLen; omega
      case k4f => omega
      intro v3 w3 happ
      obtain ⟨o3, f3⟩ := (Own.made w2 5).appendedNew (by simp) rfl (by rw [List.length_map]) happ
      rw [List.nil_append] at o3
      obtain ⟨A3, c3, rfl, n3⟩ := o3.form
      rw [List.length_map] at o3 n3 ⊢
      have f3' := (fr_alloc w2 (.cells #[] 5)).transNew f3 fun i hi => hi
      have hs3 := f3'.size
      have Q3 := Lib.hid (O2.out.frNo f3')
      have G3 := Lib.hid (G2.out.transNo f3')
      have O3 := Lib.hid o3
      clear o3
      clear happ f3 f3' n3 P1 O1
      go_wp2_with (at_builtin; refine wpList_append_rd _ rfl (.tmp 31) (.tmp 32) _ rfl 0 5 i0 _ 1 Try.underlying22 hi0 hz0 hz1 hz2 rfl _ (X.length) (X.map bv) rfl ?k5a (w.heap.size) (a2) (len2) (cap2) (l.map bv) rfl ?k5b ?k5c ?k5d (bv_one _) ?k5e ?k5f (Nat.zero_le _) ?_)
      case k5a => exact (O3.out.own (by rw [List.length_map]))
      case k5b => exact HN.out
      case k5c => exact (HR.out.frNo G3.out (Nat.le_refl _))
      case k5d => exact (by rw [List.length_map, HL.out])
      case k5e => unfold maxLen; omega
      case k5f => omega
      intro v4 w4 happ
      obtain ⟨o4, f4⟩ := O3.out.appendedNew hs3 (by rw [List.length_map]) (by rw [List.length_map, HL.out]) happ
      rw [← List.map_append] at o4
      obtain ⟨A4, c4, rfl, n4⟩ := o4.form
      have e4 : ((X ++ l).map bv).length = X.length + len2 := by rw [List.length_map, List.length_append, HL.out]
      rw [e4] at o4 n4 ⊢
      have Q4 := Lib.hid (Q3.out.fr' f4 (fun g hg hh => by have := Q3.out.lt g hg; have := O2.out.lt g hg; omega))
      have G4 := Lib.hid (G3.out.transNew f4 fun i hi => Nat.le_trans hs2 hi)
      have O4 := Lib.hid o4
      have N4 := Lib.hid n4
      clear o4 n4
      clear happ f4 Q3 O3 e4
      have hC5 := ttext_any A4 (X.length + len2) c4 (X ++ l) w4 w4.heap.size N4.out (by rw [List.length_append, HL.out]) (by unfold maxLen; omega) O4.out.cap.1 O4.out.rd
      rw [HTB.out] at hC5
      have HC5 := Lib.hid hC5
      clear hC5
      go_wp2_with fail
      refine HC5.out.mono ?_
      rintro e w5 ⟨rfl, rfl⟩
      have hs4 := G4.out.size
      go_wp2_with (at_builtin; refine wpList_append_rd _ rfl (.tmp 39) (.tmp 40) _ rfl 0 5 i0 _ 1 Try.underlying22 hi0 hz0 hz1 hz2 rfl _ (0) ([]) rfl ?k6a (w4.heap.size) (A2) (Y.length) (c2) (Y.map bv) rfl ?k6b ?k6c ?k6d (bv_one _) ?k6e ?k6f (Nat.zero_le _) ?_)
      case k6a => exact (Own.made w4 5).1
      case k6b => exact Q4.out.len.2
      case k6c => exact (Q4.out.rd.frNo (fr_alloc _ _) (Nat.le_refl _))
      case k6d => exact (by rw [List.length_map])
      case k6e => unfold maxLen; omega
      case k6f => omega
      intro v6 w6 happ
      obtain ⟨o6, f6⟩ := (Own.made w4 5).appendedNew (by simp) rfl (by rw [List.length_map]) happ
      rw [List.nil_append] at o6
      obtain ⟨A6, c6, rfl, n6⟩ := o6.form
      rw [List.length_map] at o6 n6 ⊢
      have f6' := (fr_alloc w4 (.cells #[] 5)).transNew f6 fun i hi => hi
      have hs6 := f6'.size
      have G6 := Lib.hid (G4.out.transNo f6')
      have O6 := Lib.hid o6
      clear o6
      clear happ f6 f6' n6
      go_wp2_with (at_builtin; refine wpList_append_rd _ rfl (.tmp 41) (.tmp 42) _ rfl 0 5 i0 _ 1 Try.underlying22 hi0 hz0 hz1 hz2 rfl _ (Y.length) (Y.map bv) rfl ?k7a (w.heap.size) (a2) (len2) (cap2) (l.map bv) rfl ?k7b ?k7c ?k7d (bv_one _) ?k7e ?k7f (Nat.zero_le _) ?_)
      case k7a => exact (O6.out.own (by rw [List.length_map]))
      case k7b => exact HN.out
      case k7c => exact (HR.out.frNo G6.out (Nat.le_refl _))
      case k7d => exact (by rw [List.length_map, HL.out])
      case k7e => unfold maxLen; omega
      case k7f => omega
      intro v7 w7 happ
      obtain ⟨o7, f7⟩ := O6.out.appendedNew hs6 (by rw [List.length_map]) (by rw [List.length_map, HL.out]) happ
      rw [← List.map_append] at o7
      obtain ⟨A7, c7, rfl, n7⟩ := o7.form
      have e7 : ((Y ++ l).map bv).length = Y.length + len2 := by rw [List.length_map, List.length_append, HL.out]
      rw [e7] at o7 n7 ⊢
      have G7 := Lib.hid (G6.out.transNew f7 fun i hi => Nat.le_trans hs4 hi)
      have O7 := Lib.hid o7
      have N7 := Lib.hid n7
      clear o7 n7
      clear happ f7 O6 e7
      have hC7 := tints_any A7 (Y.length + len2) c7 (Y ++ l) w7 w7.heap.size N7.out (by rw [List.length_append, HL.out]) (by unfold maxLen; omega) O7.out.cap.1 O7.out.rd (Nat.le_refl _)
      rw [HIB.out] at hC7
      have HC7 := Lib.hid hC7
      clear hC7
      go_wp2_with fail
      refine HC7.out.mono ?_
      rintro e w8 ⟨A8, c8, rfl, o8, f8⟩
      have G8 := Lib.hid (G7.out.transNo f8)
      have O8 := Lib.hid o8
      clear o8
      clear f8
      go_wp2_with fail
      refine (awake1_any _).mono ?_
      rintro e w9 ⟨rfl, f9⟩
      have G9 := Lib.hid (G8.out.transNo f9)
      have O9 := Lib.hid (O8.out.frNo f9)
      clear f9
      go_wp2_with fail
      refine (same_ints A8 a1 _ c8 len1 cap1 q q _ _ _ rfl O9.out.rd HQ.out (HQR.out.frNo G9.out (Nat.le_refl _)) (by have := O9.out.cap; omega)).mono ?_
      rintro e w10 ⟨rfl, j, rfl⟩
      rw [beq_self_eq_true]
      go_wp2_with fail
      go_ret
      exact ⟨ret_bool (by simp), (G9.out.drewN j).belowNo⟩
    · have t0 : decide ((65536 : Int) < (a0.size : Int)) = false := by simp; omega
      have t1 : decide ((65536 : Int) < (len1 : Int)) = true := by simp; omega
      clear hq hqn hqr hqb hl hn hr
      go_enter Try.func12, Try.ntmps12
      go_wp2_with fail
      refine (awake1_any _).mono ?_
      rintro e w2 ⟨rfl, f2⟩
      go_wp2_with fail
      go_ret
      exact ⟨ret_bool rfl, f2.belowNo⟩
  · have t0 : decide ((65536 : Int) < (a0.size : Int)) = true := by simp; omega
    clear hq hqn hqr hqb hl hn hr
    go_enter Try.func12, Try.ntmps12
    go_wp2_with fail
    refine (awake1_any _).mono ?_
    rintro e w2 ⟨rfl, f2⟩
    go_wp2_with fail
    go_ret
    exact ⟨ret_bool rfl, f2.belowNo⟩
end Go.Proofs.Ytjplcnjegajhpaa
