/-
  The walk of DiskTruncates.
-/
import Derived.Test.YtjhghcdofhpcgaaDiskKeeps
import Derived.Test.YtjhghcdofhpcgaaMake
import Derived.Deep.RegionWith
import Derived.Deep.RegionHeld3
namespace Go.Proofs.Ytjhghcdofhpcgaa
open Go.ChangeShapes Go.WideShapes Go.ChangeAt Go.RowKit

set_option maxHeartbeats 1000000 in
theorem DiskTruncates_walk (a0 : Option Addr) (len0 cap0 : Nat) (z0 : List Int) (a1 : Option Addr) (len1 cap1 : Nat) (z1 : List Int) (a2 : Int) (a3 : Int) (w : World) (w0 : IsRow .u8 w a0 len0 cap0 z0) (w1 : IsRow .u8 w a1 len1 cap1 z1) (_w2 : (Lit.int .i64 a2).wf = true) (_w3 : (Lit.int .i64 a3).wf = true) (_s0 : cap0 * 1 ≤ 140737488351232) (_s1 : cap1 * 1 ≤ 140737488351232) :
    Calls Try.prog 6 #[.slice a0 len0 cap0, .slice a1 len1 cap1, .int .i64 a2, .int .i64 a3] w fun e w' => e = .returned (.bool true) ∧ Below w.heap.size w w' := by
  obtain ⟨la, hla, -, -, hna, hra⟩ := w0.open_
  obtain ⟨lb, hlb, -, -, hnb, hrb⟩ := w1.open_
  obtain ⟨i0, hi0, hz0, hz1, hz2⟩ := info_parts bytes_info
  have LA := Lib.hid hla
  have LB := Lib.hid hlb
  have NA := Lib.hid hna
  have NB := Lib.hid hnb
  have RA := Lib.hid hra
  have RB := Lib.hid hrb
  clear w0 w1 hla hlb hna hnb hra hrb
  by_cases h0 : len0 ≤ 300
  · by_cases h1 : len1 ≤ 300
    · have hb0 : decide ((300 : Int) < (len0 : Int)) = false := by simp; omega
      have hb1 : decide ((300 : Int) < (len1 : Int)) = false := by simp; omega
      have hla : la.length ≤ 300 := by rw [LA.out]; exact h0
      have hlb : lb.length ≤ 300 := by rw [LB.out]; exact h1
      go_enter Try.func6, Try.ntmps6
      go_wp2_with fail
      refine (disk_new _).mono ?_
      rintro e w1 ⟨rfl, hd, hf⟩
      have D1 : Hid (DS w w1 (fun i => i = w.heap.size) w.heap.size [] 0) := ⟨hd, fun i hi => Nat.le_of_eq hi.symm, hf⟩
      clear hd hf
      go_wp2_with fail
      refine (disk_append _ _ _ _ _ D1.out.it _ _ _ la _ NA.out (RA.out.frNo D1.out.fr (Nat.le_refl _)) LA.out (by simp; omega)).mono ?_
      rintro e w2 ⟨rfl, t2⟩
      obtain ⟨F2, d2, -, -⟩ := D1.out.to t2
      rw [List.nil_append] at d2
      have D2 := Lib.hid d2
      clear t2 d2 D1
      go_wp2_with fail
      refine (disk_sync _ _ _ _ _ D2.out.it).mono ?_
      rintro e w3 ⟨rfl, t3⟩
      obtain ⟨F3, d3, -, -⟩ := D2.out.to t3
      have D3 := Lib.hid d3
      clear t3 d3 D2
      go_wp2_with fail
      refine (disk_append _ _ _ _ _ D3.out.it _ _ _ lb _ NB.out (RB.out.frNo D3.out.fr (Nat.le_refl _)) LB.out (by omega)).mono ?_
      rintro e w4 ⟨rfl, t4⟩
      obtain ⟨F4, d4, -, -⟩ := D3.out.to t4
      have D4 := Lib.hid d4
      clear t4 d4 D3
      go_wp2_with (at_builtin; refine wpList_append_rd _ rfl (.tmp 39) (.tmp 40) _ rfl 0 5 i0 _ 1 Try.underlying22 hi0 hz0 hz1 hz2 rfl _ 0 [] rfl (Own.made w4 5).1 w.heap.size a0 len0 cap0 (la.map bv) rfl ?c1 ?c2 ?c3 (bv_one la) ?c4 ?c5 (Nat.zero_le _) ?_)
      case c1 => exact NA.out
      case c2 => exact RA.out.frNo (D4.out.no (fr_alloc _ _)).fr (Nat.le_refl _)
      case c3 => rw [List.length_map, LA.out]
      case c4 => unfold maxLen; omega
      case c5 => omega
      intro v5 w5 happ
      obtain ⟨o5, f5⟩ := (Own.made w4 5).appendedNew (by simp) rfl (by rw [List.length_map, LA.out]) happ
      rw [List.nil_append] at o5
      have FF := Lib.hid ((fr_alloc w4 (.cells #[] 5)).transNew f5 fun i hi => hi)
      have D5 := Lib.hid (D4.out.no FF.out)
      obtain ⟨A5, c5, rfl, n5⟩ := o5.form
      rw [List.length_map] at o5 ⊢
      have O5 := Lib.hid o5
      have hsz5 : w4.heap.size ≤ w5.heap.size := FF.out.size
      clear happ o5 f5 n5
      go_wp2_with (at_builtin; refine wpList_append_rd _ rfl (.tmp 41) (.tmp 42) _ rfl 0 5 i0 _ 1 Try.underlying22 hi0 hz0 hz1 hz2 rfl _ la.length (la.map bv) rfl ?c0 w.heap.size a1 len1 cap1 (lb.map bv) rfl ?c1 ?c2 ?c3 (bv_one lb) ?c4 ?c5 (Nat.zero_le _) ?_)
      case c0 => exact O5.out.own (by rw [List.length_map])
      case c1 => exact NB.out
      case c2 => exact RB.out.frNo D5.out.fr (Nat.le_refl _)
      case c3 => rw [List.length_map, LB.out]
      case c4 => unfold maxLen; omega
      case c5 => omega
      intro v6 w6 happ
      obtain ⟨o6, f6⟩ := O5.out.appendedNew hsz5 (by rw [List.length_map]) (by rw [List.length_map, LB.out]) happ
      rw [← List.map_append] at o6
      have d6 := D4.out.no (FF.out.transNew f6 fun i hi => hi)
      have ap6 := Apart.new o6 D4.out.it.lt
      obtain ⟨A6, c6, rfl, n6⟩ := o6.form
      rw [List.length_map] at o6 n6 ap6 ⊢
      -- from here on: all is a list L of m bytes
      obtain ⟨L, hL⟩ : ∃ L, L = la ++ lb := ⟨_, rfl⟩
      obtain ⟨m, hm⟩ : ∃ m, m = L.length := ⟨_, rfl⟩
      have hm2 : m = la.length + lb.length := by rw [hm, hL, List.length_append]
      rw [← hL, ← hm] at o6 n6 ap6 ⊢
      rw [← hL] at d6
      have hm3 : la.length ≤ m := by omega
      have hm4 : m ≤ 600 := by omega
      have HL := Lib.hid hL
      have HM := Lib.hid hm
      have HM2 := Lib.hid hm2
      have O6 := Lib.hid o6
      have AP6 := Lib.hid ap6
      have D6 := Lib.hid d6
      clear happ o6 f6 ap6 d6 n6 D5 D4 O5 FF hsz5 hL hm hm2
      go_wp2_with fail
      refine (between_any _ _ _ _ (by omega) (by omega) (by omega)).mono ?_
      rintro e w7 ⟨rfl, rfl⟩
      have b1 := Int.emod_nonneg a2 (b := (m : Int) + 2 - -2 + 1) (by omega)
      have b2 := Int.emod_lt_of_pos a2 (b := (m : Int) + 2 - -2 + 1) (by omega)
      obtain ⟨n, hn⟩ : ∃ n : Int, n = -2 + a2 % ((m : Int) + 2 - -2 + 1) := ⟨_, rfl⟩
      rw [← hn]
      have hn1 : -2 ≤ n := by omega
      have hn2 : n ≤ (m : Int) + 2 := by omega
      clear b1 b2 hn
      by_cases hbad : n < 0 ∨ (m : Int) < n
      · go_wp2_with fail
        refine (disk_truncate_no _ _ _ _ _ D6.out.it n (by rw [← HM.out]; exact hbad)).mono ?_
        rintro e w8 ⟨rfl, rfl⟩
        by_cases hneg : n < 0
        · have ht1 : decide (n < 0) = true := by simp; omega
          have hself : (L == L) = true := by simp
          have hl0 := LA.out
          have hd0 : ((la.length : Int) == (len0 : Int)) = true := by rw [hl0]; simp
          clear hl0
          go_wp2_with fail
          refine (awake7_any _).mono ?_
          rintro e w9 ⟨rfl, f9⟩
          have D9 := Lib.hid (D6.out.no f9)
          have O9 := Lib.hid (O6.out.frNo f9)
          clear f9 D6 O6 AP6
          go_wp2_with fail
          refine (disk_bytes _ _ _ _ _ D9.out.it).mono ?_
          rintro e w10 ⟨A10, c10, rfl, o10, f10⟩
          rw [← HM.out] at o10 ⊢
          have O10 := Lib.hid o10
          have D10 := Lib.hid (D9.out.no f10)
          have P10 := Lib.hid (O9.out.frNo f10)
          clear o10 f10 D9 O9
          go_wp2_with fail
          refine (same_bytes _ _ _ _ _ _ L L _ _ _ O10.out.len.2 HM.out.symm O10.out.rd P10.out.len.2 HM.out.symm P10.out.rd).mono ?_
          rintro e w11 ⟨rfl, rfl⟩
          go_wp2_with fail
          refine (disk_durable _ _ _ _ _ D10.out.it).mono ?_
          rintro e w12 ⟨rfl, rfl⟩
          go_wp2_with fail
          go_ret
          exact ⟨ret_bool (by simp), D10.out.fr.belowNo⟩
        · have ht1 : decide (n < 0) = false := by simp; omega
          have ht2 : decide ((m : Int) < n) = true := by simp; omega
          have hself : (L == L) = true := by simp
          have hl0 := LA.out
          have hd0 : ((la.length : Int) == (len0 : Int)) = true := by rw [hl0]; simp
          clear hl0
          go_wp2_with fail
          refine (awake7_any _).mono ?_
          rintro e w9 ⟨rfl, f9⟩
          have D9 := Lib.hid (D6.out.no f9)
          have O9 := Lib.hid (O6.out.frNo f9)
          clear f9 D6 O6 AP6
          go_wp2_with fail
          refine (disk_bytes _ _ _ _ _ D9.out.it).mono ?_
          rintro e w10 ⟨A10, c10, rfl, o10, f10⟩
          rw [← HM.out] at o10 ⊢
          have O10 := Lib.hid o10
          have D10 := Lib.hid (D9.out.no f10)
          have P10 := Lib.hid (O9.out.frNo f10)
          clear o10 f10 D9 O9
          go_wp2_with fail
          refine (same_bytes _ _ _ _ _ _ L L _ _ _ O10.out.len.2 HM.out.symm O10.out.rd P10.out.len.2 HM.out.symm P10.out.rd).mono ?_
          rintro e w11 ⟨rfl, rfl⟩
          go_wp2_with fail
          refine (disk_durable _ _ _ _ _ D10.out.it).mono ?_
          rintro e w12 ⟨rfl, rfl⟩
          go_wp2_with fail
          go_ret
          exact ⟨ret_bool (by simp), D10.out.fr.belowNo⟩
      · obtain ⟨nn, rfl⟩ : ∃ nn : Nat, n = (nn : Int) := ⟨n.toNat, by omega⟩
        have hnm : nn ≤ m := by omega
        clear hbad hn1 hn2
        go_wp2_with fail
        refine (disk_truncate_yes _ _ _ _ _ D6.out.it nn (by rw [← HM.out]; exact hnm)).mono ?_
        rintro e w8 ⟨rfl, t8⟩
        obtain ⟨F8, d8, f8, s8⟩ := D6.out.to t8
        by_cases hmin : nn ≤ la.length
        · have hdd : min la.length nn = nn := by omega
          rw [hdd] at d8
          have hmx : ¬ len0 < nn := by have := LA.out; omega
          have D8 := Lib.hid d8
          have O8 := Lib.hid (O6.out.fr' f8 AP6.out)
          have AP8 := Lib.hid (AP6.out.next O6.out s8)
          have X8 := Lib.hid (O8.out.cut (k := nn) hnm)
          clear t8 d8 f8 s8 D6 O6 AP6 hmin hdd
          have ht1 : decide ((nn : Int) < 0) = false := by simp
          have ht2 : decide ((m : Int) < (nn : Int)) = false := by simp; omega
          have ht3 : ¬ m < nn := by omega
          have hself : (L.take nn == L.take nn) = true := by simp
          have hc6 : nn ≤ c6 := Nat.le_trans hnm O8.out.cap.1
          have HTL : Hid ((L.take nn).length = nn) := by
            show (L.take nn).length = nn
            have := HM.out
            rw [List.length_take]
            omega
          go_wp2_with fail
          go_region_held3 (fun _ => True) (trivial) (first
            | (go_at_call 13; refine (disk_bytes _ _ _ _ _ (D8.out.no ((Fr.refl No _).drew)).it).mono ?_; rintro e w9 ⟨A9, c9, rfl, o9, f9⟩; rw [HTL.out] at o9 ⊢; have O9 := Lib.hid o9; have G9 := Lib.hid (((Fr.refl No _).drew).transNo f9); clear o9 f9)
            | (go_at_call 15; refine (same_bytes _ _ _ _ _ _ (L.take nn) (L.take nn) _ _ _ O9.out.len.2 HTL.out O9.out.rd X8.out.len.2 HTL.out (by have := (X8.out.frNo G9.out).rd; rwa [← List.map_take] at this)).mono ?_; rintro e w10 ⟨rfl, rfl⟩)
            | (go_at_call 14; refine (disk_durable _ _ _ _ _ (D8.out.no G9.out).it).mono ?_; rintro e w10 ⟨rfl, rfl⟩))
          all_goals
            go_wp2_with fail
            have G9' := G9.out
            have D9 := Lib.hid (D8.out.no G9')
            have P9 := Lib.hid (O8.out.frNo G9')
            clear G9' G9 O9 X8 D8 O8
            refine (disk_crash _ _ _ _ _ D9.out.it _).mono ?_
            rintro e w10 ⟨rfl, t10⟩
            obtain ⟨F10, d10, f10, s10⟩ := D9.out.to t10
            obtain ⟨q, hq⟩ : ∃ q, crashN (L.take nn).length nn a3 = q := ⟨_, rfl⟩
            have hq2 := crashN_le (L.take nn).length nn a3 (by rw [HTL.out]; omega)
            rw [hq] at d10 hq2
            rw [HTL.out] at hq2
            have htt : (L.take nn).take q = L.take q := by rw [List.take_take]; congr 1; omega
            rw [htt] at d10
            have HQL : Hid ((L.take q).length = q) := by
              show (L.take q).length = q
              have := HM.out
              rw [List.length_take]
              omega
            have D10 := Lib.hid d10
            have P10 := Lib.hid (P9.out.fr' f10 AP8.out)
            clear t10 d10 f10 s10 hq htt D9 P9 AP8
            have hqa : nn ≤ q := hq2.1
            have hqb : q ≤ nn := hq2.2
            clear hq2 hself
            go_wp2_with fail
            refine (disk_bytes _ _ _ _ _ D10.out.it).mono ?_
            rintro e w11 ⟨A11, c11, rfl, o11, f11⟩
            rw [HQL.out] at o11 ⊢
            have O11 := Lib.hid o11
            have D11 := Lib.hid (D10.out.no f11)
            have P11 := Lib.hid (P10.out.frNo f11)
            clear o11 f11 D10 P10
            go_wp2_with fail
            refine (awake7_any _).mono ?_
            rintro e w12 ⟨rfl, f12⟩
            have O12 := Lib.hid (O11.out.frNo f12)
            have D12 := Lib.hid (D11.out.no f12)
            have X12 := Lib.hid ((P11.out.frNo f12).cut (k := q) (by omega))
            clear f12 O11 D11 P11
            have hqs : (L.take q == L.take q) = true := by simp
            have hqc : q ≤ c6 := by omega
            have hqd : decide (q ≤ nn) = true := by simp; omega
            have hqe : decide (nn ≤ q) = true := by simp; omega
            go_wp2_with fail
            refine (same_bytes _ _ _ _ _ _ (L.take q) (L.take q) _ _ _ O12.out.len.2 HQL.out O12.out.rd X12.out.len.2 HQL.out (by have := X12.out.rd; rwa [← List.map_take] at this)).mono ?_
            rintro e w13 ⟨rfl, rfl⟩
            go_wp2_with fail
            go_ret
            exact ⟨ret_bool (by simp), D12.out.fr.belowNo⟩
        · have hdd : min la.length nn = la.length := by omega
          rw [hdd] at d8
          have hmx : len0 < nn := by have := LA.out; omega
          rw [LA.out] at d8
          have D8 := Lib.hid d8
          have O8 := Lib.hid (O6.out.fr' f8 AP6.out)
          have AP8 := Lib.hid (AP6.out.next O6.out s8)
          have X8 := Lib.hid (O8.out.cut (k := nn) hnm)
          clear t8 d8 f8 s8 D6 O6 AP6 hmin hdd
          have ht1 : decide ((nn : Int) < 0) = false := by simp
          have ht2 : decide ((m : Int) < (nn : Int)) = false := by simp; omega
          have ht3 : ¬ m < nn := by omega
          have hself : (L.take nn == L.take nn) = true := by simp
          have hc6 : nn ≤ c6 := Nat.le_trans hnm O8.out.cap.1
          have HTL : Hid ((L.take nn).length = nn) := by
            show (L.take nn).length = nn
            have := HM.out
            rw [List.length_take]
            omega
          go_wp2_with fail
          go_region_held3 (fun _ => True) (trivial) (first
            | (go_at_call 13; refine (disk_bytes _ _ _ _ _ (D8.out.no ((Fr.refl No _).drew)).it).mono ?_; rintro e w9 ⟨A9, c9, rfl, o9, f9⟩; rw [HTL.out] at o9 ⊢; have O9 := Lib.hid o9; have G9 := Lib.hid (((Fr.refl No _).drew).transNo f9); clear o9 f9)
            | (go_at_call 15; refine (same_bytes _ _ _ _ _ _ (L.take nn) (L.take nn) _ _ _ O9.out.len.2 HTL.out O9.out.rd X8.out.len.2 HTL.out (by have := (X8.out.frNo G9.out).rd; rwa [← List.map_take] at this)).mono ?_; rintro e w10 ⟨rfl, rfl⟩)
            | (go_at_call 14; refine (disk_durable _ _ _ _ _ (D8.out.no G9.out).it).mono ?_; rintro e w10 ⟨rfl, rfl⟩))
          all_goals
            go_wp2_with fail
            have G9' := G9.out
            have D9 := Lib.hid (D8.out.no G9')
            have P9 := Lib.hid (O8.out.frNo G9')
            clear G9' G9 O9 X8 D8 O8
            refine (disk_crash _ _ _ _ _ D9.out.it _).mono ?_
            rintro e w10 ⟨rfl, t10⟩
            obtain ⟨F10, d10, f10, s10⟩ := D9.out.to t10
            obtain ⟨q, hq⟩ : ∃ q, crashN (L.take nn).length len0 a3 = q := ⟨_, rfl⟩
            have hq2 := crashN_le (L.take nn).length len0 a3 (by rw [HTL.out]; omega)
            rw [hq] at d10 hq2
            rw [HTL.out] at hq2
            have htt : (L.take nn).take q = L.take q := by rw [List.take_take]; congr 1; omega
            rw [htt] at d10
            have HQL : Hid ((L.take q).length = q) := by
              show (L.take q).length = q
              have := HM.out
              rw [List.length_take]
              omega
            have D10 := Lib.hid d10
            have P10 := Lib.hid (P9.out.fr' f10 AP8.out)
            clear t10 d10 f10 s10 hq htt D9 P9 AP8
            have hqa : len0 ≤ q := hq2.1
            have hqb : q ≤ nn := hq2.2
            clear hq2 hself
            go_wp2_with fail
            refine (disk_bytes _ _ _ _ _ D10.out.it).mono ?_
            rintro e w11 ⟨A11, c11, rfl, o11, f11⟩
            rw [HQL.out] at o11 ⊢
            have O11 := Lib.hid o11
            have D11 := Lib.hid (D10.out.no f11)
            have P11 := Lib.hid (P10.out.frNo f11)
            clear o11 f11 D10 P10
            go_wp2_with fail
            refine (awake7_any _).mono ?_
            rintro e w12 ⟨rfl, f12⟩
            have O12 := Lib.hid (O11.out.frNo f12)
            have D12 := Lib.hid (D11.out.no f12)
            have X12 := Lib.hid ((P11.out.frNo f12).cut (k := q) (by omega))
            clear f12 O11 D11 P11
            have hqs : (L.take q == L.take q) = true := by simp
            have hqc : q ≤ c6 := by omega
            have hqd : decide (q ≤ nn) = true := by simp; omega
            have hqe : decide (len0 ≤ q) = true := by simp; omega
            go_wp2_with fail
            refine (same_bytes _ _ _ _ _ _ (L.take q) (L.take q) _ _ _ O12.out.len.2 HQL.out O12.out.rd X12.out.len.2 HQL.out (by have := X12.out.rd; rwa [← List.map_take] at this)).mono ?_
            rintro e w13 ⟨rfl, rfl⟩
            go_wp2_with fail
            go_ret
            exact ⟨ret_bool (by simp), D12.out.fr.belowNo⟩
    · have hb0 : decide ((300 : Int) < (len0 : Int)) = false := by simp; omega
      have hb1 : decide ((300 : Int) < (len1 : Int)) = true := by simp; omega
      go_enter Try.func6, Try.ntmps6
      go_wp2_with fail
      refine (disk_new _).mono ?_
      rintro e w1 ⟨rfl, hd, hf⟩
      have HF := Lib.hid hf
      clear hd hf
      go_wp2_with fail
      refine (awake7_any _).mono ?_
      rintro e w2 ⟨rfl, f2⟩
      have HF2 := Lib.hid f2
      clear f2
      go_wp2_with fail
      go_ret
      exact ⟨ret_bool (by simp), (HF.out.transNo HF2.out).belowNo⟩
  · have hb0 : decide ((300 : Int) < (len0 : Int)) = true := by simp; omega
    go_enter Try.func6, Try.ntmps6
    go_wp2_with fail
    refine (disk_new _).mono ?_
    rintro e w1 ⟨rfl, hd, hf⟩
    have HF := Lib.hid hf
    clear hd hf
    go_wp2_with fail
    refine (awake7_any _).mono ?_
    rintro e w2 ⟨rfl, f2⟩
    have HF2 := Lib.hid f2
    clear f2
    go_wp2_with fail
    go_ret
    exact ⟨ret_bool (by simp), (HF.out.transNo HF2.out).belowNo⟩
end Go.Proofs.Ytjhghcdofhpcgaa
