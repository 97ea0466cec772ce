/-
  The walk of DiskKeeps.
-/
import Derived.Test.YtjhghcdofhpcgaaDiskLaws
namespace Go.Proofs.Ytjhghcdofhpcgaa
open Go.ChangeShapes Go.WideShapes Go.ChangeAt Go.RowKit

theorem crashN_le (len k : Nat) (keep : Int) (h : k ≤ len) : k ≤ crashN len k keep ∧ crashN len k keep ≤ len := by
  unfold crashN
  omega
theorem crashN_all (len : Nat) (keep : Int) : crashN len len keep = len := by
  unfold crashN
  omega

set_option maxHeartbeats 1000000 in
theorem DiskKeeps_walk (a0 : Option Addr) (len0 cap0 : Nat) (z0 : List Int) (a1 : Option Addr) (len1 cap1 : Nat) (z1 : List Int) (a2 : Int) (a3 : Int) (w : World) (w0 : IsRow .u8 w a0 len0 cap0 z0) (w1 : IsRow .u8 w a1 len1 cap1 z1) (_w2 : (Lit.int .i64 a2).wf = true) (_w3 : (Lit.int .i64 a3).wf = true) (_s0 : cap0 * 1 ≤ 140737488351232) (_s1 : cap1 * 1 ≤ 140737488351232) :
    Calls Try.prog 3 #[.slice a0 len0 cap0, .slice a1 len1 cap1, .int .i64 a2, .int .i64 a3] w fun e w' => e = .returned (.bool true) ∧ Below w.heap.size w w' := by
  obtain ⟨la, hla, -, -, hna, hra⟩ := w0.open_
  obtain ⟨lb, hlb, -, -, hnb, hrb⟩ := w1.open_
  obtain ⟨i0, hi0, hz0, hz1, hz2⟩ := info_parts bytes_info
  have LA := Lib.hid hla
  have LB := Lib.hid hlb
  have NA := Lib.hid hna
  have NB := Lib.hid hnb
  have RA := Lib.hid hra
  have RB := Lib.hid hrb
  clear w0 w1 hla hlb hna hnb hra hrb
  by_cases hshort : len0 ≤ 300 ∧ len1 ≤ 300
  · obtain ⟨hs0, hs1⟩ := hshort
    have hb0 : decide ((300 : Int) < (len0 : Int)) = false := by simp; omega
    have hb1 : decide ((300 : Int) < (len1 : Int)) = false := by simp; omega
    have hla : la.length ≤ 300 := by rw [LA.out]; exact hs0
    have hlb : lb.length ≤ 300 := by rw [LB.out]; exact hs1
    go_enter Try.func3, Try.ntmps3
    go_wp2_with fail
    refine (disk_new _).mono ?_
    rintro e w1 ⟨rfl, hd, hf⟩
    have D1 : Hid (DS w w1 (fun i => i = w.heap.size) w.heap.size [] 0) := ⟨hd, fun i hi => Nat.le_of_eq hi.symm, hf⟩
    clear hd hf
    go_wp2_with fail
    refine (disk_append _ _ _ _ _ D1.out.it _ _ _ la _ NA.out (RA.out.frNo D1.out.fr (Nat.le_refl _)) LA.out (by simp; omega)).mono ?_
    rintro e w2 ⟨rfl, t2⟩
    obtain ⟨F2, d2, -, -⟩ := D1.out.to t2
    rw [List.nil_append] at d2
    have D2 := Lib.hid d2
    clear t2 d2 D1
    go_wp2_with fail
    refine (disk_sync _ _ _ _ _ D2.out.it).mono ?_
    rintro e w3 ⟨rfl, t3⟩
    obtain ⟨F3, d3, -, -⟩ := D2.out.to t3
    have D3 := Lib.hid d3
    clear t3 d3 D2
    go_wp2_with fail
    refine (disk_append _ _ _ _ _ D3.out.it _ _ _ lb _ NB.out (RB.out.frNo D3.out.fr (Nat.le_refl _)) LB.out (by omega)).mono ?_
    rintro e w4 ⟨rfl, t4⟩
    obtain ⟨F4, d4, -, -⟩ := D3.out.to t4
    have D4 := Lib.hid d4
    clear t4 d4 D3
    go_wp2_with (at_builtin; refine wpList_append_rd _ rfl (.tmp 40) (.tmp 41) _ rfl 0 5 i0 _ 1 Try.underlying22 hi0 hz0 hz1 hz2 rfl _ 0 [] rfl (Own.made w4 5).1 w.heap.size a0 len0 cap0 (la.map bv) rfl ?c1 ?c2 ?c3 (bv_one la) ?c4 ?c5 (Nat.zero_le _) ?_)
    case c1 => exact NA.out
    case c2 => exact RA.out.frNo (D4.out.no (fr_alloc _ _)).fr (Nat.le_refl _)
    case c3 => rw [List.length_map, LA.out]
    case c4 => unfold maxLen; omega
    case c5 => omega
    intro v5 w5 happ
    obtain ⟨o5, f5⟩ := (Own.made w4 5).appendedNew (by simp) rfl (by rw [List.length_map, LA.out]) happ
    rw [List.nil_append] at o5
    have D5 := Lib.hid ((D4.out.no ((fr_alloc w4 _).transNew f5 fun i hi => hi)))
    obtain ⟨A5, c5, rfl, n5⟩ := o5.form
    rw [List.length_map] at o5 ⊢
    have O5 := Lib.hid o5
    have F5 := Lib.hid ((fr_alloc w4 (.cells #[] 5)).transNew f5 fun i hi => hi)
    have hsz5 : w4.heap.size ≤ w5.heap.size := F5.out.size
    clear happ o5 f5 n5
    go_wp2_with (at_builtin; refine wpList_append_rd _ rfl (.tmp 42) (.tmp 43) _ rfl 0 5 i0 _ 1 Try.underlying22 hi0 hz0 hz1 hz2 rfl _ la.length (la.map bv) rfl ?c0 w.heap.size a1 len1 cap1 (lb.map bv) rfl ?c1 ?c2 ?c3 (bv_one lb) ?c4 ?c5 (Nat.zero_le _) ?_)
    case c0 => have := O5.out.1; rwa [List.length_map] at this
    case c1 => exact NB.out
    case c2 => exact RB.out.frNo D5.out.fr (Nat.le_refl _)
    case c3 => rw [List.length_map, LB.out]
    case c4 => unfold maxLen; omega
    case c5 => omega
    intro v6 w6 happ
    obtain ⟨o6, f6⟩ := O5.out.appendedNew hsz5 (by rw [List.length_map]) (by rw [List.length_map, LB.out]) happ
    rw [← List.map_append] at o6
    have d6 := D4.out.no (F5.out.transNew f6 fun i hi => hi)
    have ap6 := Apart.new o6 D4.out.it.lt
    obtain ⟨A6, c6, rfl, n6⟩ := o6.form
    rw [List.length_map] at o6 n6 ap6 ⊢
    have O6 := Lib.hid o6
    have AP6 := Lib.hid ap6
    have N6 := Lib.hid n6
    have D6 := Lib.hid d6
    clear happ o6 f6 ap6 d6 n6 D5 D4 O5 F5 hsz5
    go_wp2_with fail
    refine (disk_crash _ _ _ _ _ D6.out.it _).mono ?_
    rintro e w7 ⟨rfl, t7⟩
    obtain ⟨F7, d7, f7, s7⟩ := D6.out.to t7
    obtain ⟨q, hq⟩ : ∃ q, crashN (la ++ lb).length la.length a2 = q := ⟨_, rfl⟩
    have hq2 := crashN_le (la ++ lb).length la.length a2 (by rw [List.length_append]; omega)
    rw [hq] at d7 hq2
    have hql : ((la ++ lb).take q).length = q := by rw [List.length_take]; omega
    have D7 := Lib.hid d7
    have O7 := Lib.hid (O6.out.fr' f7 AP6.out)
    have AP7 := Lib.hid (AP6.out.next O6.out s7)
    have HQL := Lib.hid hql
    clear t7 d7 f7 s7 O6 AP6 D6 hq hql
    go_wp2_with fail
    refine (disk_bytes _ _ _ _ _ D7.out.it).mono ?_
    rintro e w8 ⟨A8, c8, rfl, o8, f8⟩
    have ap8 := Apart.new o8 D7.out.it.lt
    rw [HQL.out] at o8 ap8 ⊢
    have O8 := Lib.hid o8
    have AP8 := Lib.hid ap8
    have D8 := Lib.hid (D7.out.no f8)
    have P8 := Lib.hid (O7.out.frNo f8)
    clear o8 f8 D7 O7 ap8
    go_wp2_with fail
    refine (disk_durable _ _ _ _ _ D8.out.it).mono ?_
    rintro e w9 ⟨rfl, rfl⟩
    go_wp2_with fail
    refine (disk_crash _ _ _ _ _ D8.out.it _).mono ?_
    rintro e w9 ⟨rfl, t9⟩
    obtain ⟨F9, d9, f9, s9⟩ := D8.out.to t9
    rw [HQL.out, crashN_all, List.take_of_length_le (by rw [HQL.out]; omega)] at d9
    have D9 := Lib.hid d9
    have O9 := Lib.hid (O8.out.fr' f9 AP8.out)
    have P9 := Lib.hid (P8.out.fr' f9 AP7.out)
    clear t9 d9 f9 s9 O8 P8 D8 AP7 AP8
    go_wp2_with fail
    refine (disk_bytes _ _ _ _ _ D9.out.it).mono ?_
    rintro e w10 ⟨A10, c10, rfl, o10, f10⟩
    rw [HQL.out] at o10 ⊢
    have O10 := Lib.hid o10
    have D10 := Lib.hid (D9.out.no f10)
    have X10 := Lib.hid (O9.out.frNo f10)
    have P10 := Lib.hid (P9.out.frNo f10)
    clear o10 f10 D9 O9 P9
    go_wp2_with fail
    refine (awake7_any _).mono ?_
    rintro e w11 ⟨rfl, f11⟩
    have Y11 := Lib.hid (O10.out.frNo f11)
    have D11 := Lib.hid (D10.out.no f11)
    have X11 := Lib.hid (X10.out.frNo f11)
    have P11 := Lib.hid (P10.out.frNo f11)
    clear f11 O10 D10 X10 P10
    have hl0 := LA.out
    have hq3 := hq2
    rw [List.length_append] at hq3
    have ht1 : decide (len0 ≤ q) = true := by simp; omega
    have ht2 : decide ((q : Int) ≤ (la.length : Int) + (lb.length : Int)) = true := by simp; omega
    have hq4 : q ≤ la.length + lb.length := by omega
    have hc6 := P11.out.cap.1
    rw [List.length_append] at hc6
    have hqc : q ≤ c6 := by omega
    have X12 := Lib.hid (P11.out.cut (k := q) hq2.2)
    have hself : ((la ++ lb).take q == (la ++ lb).take q) = true := by simp
    clear hl0 hq2 hq3 hc6
    go_wp2_with fail
    refine (same_bytes _ _ _ _ _ _ ((la ++ lb).take q) ((la ++ lb).take q) _ _ _ X11.out.len.2 HQL.out X11.out.rd X12.out.len.2 HQL.out (by have := X12.out.rd; rwa [← List.map_take] at this)).mono ?_
    rintro e w12 ⟨rfl, rfl⟩
    go_wp2_with fail
    refine (same_bytes _ _ _ _ _ _ ((la ++ lb).take q) ((la ++ lb).take q) _ _ _ X11.out.len.2 HQL.out X11.out.rd Y11.out.len.2 HQL.out Y11.out.rd).mono ?_
    rintro e w13 ⟨rfl, rfl⟩
    go_wp2_with fail
    go_ret
    exact ⟨ret_bool (by simp), D11.out.fr.belowNo⟩
  · have hno : (decide ((300 : Int) < (len0 : Int)) || decide ((300 : Int) < (len1 : Int))) = true := by simp; omega
    by_cases h0 : len0 ≤ 300
    · have hb0 : decide ((300 : Int) < (len0 : Int)) = false := by simp; omega
      have hb1 : decide ((300 : Int) < (len1 : Int)) = true := by simp; omega
      clear hno hshort
      go_enter Try.func3, Try.ntmps3
      go_wp2_with fail
      refine (disk_new _).mono ?_
      rintro e w1 ⟨rfl, hd, hf⟩
      have HF := Lib.hid hf
      clear hd hf
      go_wp2_with fail
      refine (awake7_any _).mono ?_
      rintro e w2 ⟨rfl, f2⟩
      have HF2 := Lib.hid f2
      clear f2
      go_wp2_with fail
      go_ret
      exact ⟨ret_bool (by simp), (HF.out.transNo HF2.out).belowNo⟩
    · have hb0 : decide ((300 : Int) < (len0 : Int)) = true := by simp; omega
      clear hno hshort
      go_enter Try.func3, Try.ntmps3
      go_wp2_with fail
      refine (disk_new _).mono ?_
      rintro e w1 ⟨rfl, hd, hf⟩
      have HF := Lib.hid hf
      clear hd hf
      go_wp2_with fail
      refine (awake7_any _).mono ?_
      rintro e w2 ⟨rfl, f2⟩
      have HF2 := Lib.hid f2
      clear f2
      go_wp2_with fail
      go_ret
      exact ⟨ret_bool (by simp), (HF.out.transNo HF2.out).belowNo⟩
end Go.Proofs.Ytjhghcdofhpcgaa
