/-
  The walk of FrameRecords.
-/
import Derived.Test.YtchdgnahnbepoaaFrmAw
namespace Go.Proofs.Ytchdgnahnbepoaa
open Go.ChangeShapes Go.WideShapes Go.ChangeAt Go.RowKit
set_option linter.unusedVariables false

/-- What the drawn statement of FrameRecords leaves. -/
def Rec12 (rs : List (List UInt8)) (m : Nat) (w5 : World) (x y : Value) (wx : World) : Prop := ∃ A c, x = .slice A rs.length c ∧ y = .int .i64 (m : Int) ∧ RowsAt wx A rs ∧ Fr No w5 wx

set_option maxRecDepth 100000 in
set_option maxHeartbeats 2000000 in
theorem FrameRecords_walk (v0 : Value) (a1 : Int) (a2 : Option Addr) (len2 cap2 : Nat) (z2 : List Int) (a3 : Int) (w : World) (w0 : In_rows w v0) (_w1 : (Lit.int .i64 a1).wf = true) (w2 : IsRow .u8 w a2 len2 cap2 z2) (_w3 : (Lit.int .i64 a3).wf = true) (_s2 : cap2 * 1 ≤ 140737488351232) :
    Calls Try.prog 10 #[v0, .int .i64 a1, .slice a2 len2 cap2, .int .i64 a3] w fun e w' => e = .returned (.bool true) ∧ Below w.heap.size w w' := by
  obtain ⟨A, len, cap, rs, rfl, hcn, hM, hnil, hrows⟩ := w0
  obtain ⟨l, hl, hlc, -, hn, hr⟩ := w2.opens
  obtain ⟨i0, hi0, hz0, hz1, hz2⟩ := info_parts bytes_info
  clear w2 _w1 _w3
  have HCN := Lib.hid hcn
  have HNIL := Lib.hid hnil
  have HROWS := Lib.hid hrows
  have HL := Lib.hid hl
  have HN := Lib.hid hn
  have HR := Lib.hid hr
  clear hcn hnil hrows hl hn hr
  go_enter Try.func10, Try.ntmps10
  go_wp2_with fail
  refine (few3 w _ A len cap rs HROWS.out HCN.out hM (Fr.refl _ _)).mono ?_
  rintro e w1 ⟨f, rfl, hfew, rfl⟩
  cases f
  · go_wp2_with fail
    refine (awake3_any _).mono ?_
    rintro e w5 ⟨rfl, f5⟩
    go_wp2_with fail
    go_ret
    exact ⟨ret_bool rfl, f5.belowNo⟩
  obtain ⟨h20, hall⟩ := hfew rfl
  rw [HCN.out] at h20
  clear hfew
  by_cases h3 : len2 ≤ 300
  · have t3 : decide ((300 : Int) < (len2 : Int)) = false := by simp; omega
    have HALL := Lib.hid hall
    clear hall
    go_wp2_with fail
    go_loopw [9, 10] (fun v i wr => ∃ (m : Nat) (A' : Option Addr) (c' : Nat) (q : List UInt8), m ≤ len ∧ i = .int .i64 m ∧ q = frames a1 (rs.take m) ∧ v = .slice A' q.length c' ∧ Own wr (fun i => w.heap.size ≤ i) 5 (.slice A' q.length c') (q.map bv) ∧ q.length ≤ 6360 ∧ Fr No w wr) (fun _ i _ => len - (intOf i).toNat)
    case atStart => exact ⟨0, none, 0, [], Nat.zero_le _, rfl, by simp [frames], rfl, Own.nil _ _ _, by simp, Fr.refl _ _⟩
    case round =>
      obtain ⟨m, A', c', q, hm, rfl, hq, rfl, ho, hql, hfr⟩ := hrel
      by_cases hlt : m < len
      · obtain ⟨b, off, a, rfl, ha, hok, hc⟩ := HROWS.out.at_ (i := m) (by rw [HCN.out]; exact hlt)
        have c0 := hc wr hfr
        have hab := HALL.out a.b (List.mem_of_getElem? ha)
        have hnext : frames a1 (rs.take (m + 1)) = q ++ putN a1 a.b := by rw [List.take_add_one, ha, hq]; exact frames_snoc _ _ _
        have hnl : (q ++ putN a1 a.b).length ≤ 6360 := by
          rw [← hnext]
          have := frames_len a1 (rs.take (m + 1)) (fun r hr => HALL.out r (List.mem_of_mem_take hr))
          rw [List.length_take] at this
          omega
        have R1 := Lib.hid (((hok.rd.frNo hfr (Nat.le_refl _)).mono hfr.size))
        have hs := hfr.size
        have HQ := Lib.hid hq
        have HO := Lib.hid ho
        have HFR := Lib.hid hfr
        have HNEXT := Lib.hid hnext
        have HOK := Lib.hid hok
        clear hq ho hfr hnext hok
        clear hc
        go_wp2_with fail
        refine (put_short A' q.length c' a1 a.A a.b.length a.c q a.b wr wr.heap.size HO.out.len.2 rfl HO.out.rd HOK.out.nil_ rfl R1.out (Nat.le_refl _) (by omega) (by omega)).mono ?_
        rintro e w2 ⟨A2, c2, rfl, o2, f2⟩
        have O2 := Lib.hid (o2.mono (G := fun i => w.heap.size ≤ i) fun i hi => Nat.le_trans hs hi)
        have F2 := Lib.hid (HFR.out.transNo f2)
        clear o2 f2
        go_wp2_with fail
        go_roundw
        case rel => exact ⟨m + 1, A2, c2, q ++ putN a1 a.b, by omega, by go_num, HNEXT.out.symm, by rw [List.length_append], O2.out, hnl, F2.out⟩
        case measure => simp [intOf]; omega
      · rw [List.take_of_length_le (by rw [HCN.out]; omega)] at hq
        have hpl := putN_lenP a1 l (by rw [HL.out]; omega)
        rw [HL.out] at hpl
        have hcutf := takeFr_cut a1 l (by rw [HL.out]; omega)
        generalize hP : putN a1 l = P at *
        have HO := Lib.hid ho
        have HFR := Lib.hid hfr
        have HQ := Lib.hid hq
        have HP := Lib.hid hP
        clear ho hfr hq hP
        go_wp2_with fail
        refine (put_short none 0 0 a1 a2 len2 cap2 [] l wr wr.heap.size (fun _ => rfl) rfl Rd.nil HN.out HL.out ((HR.out.frNo HFR.out (Nat.le_refl _)).mono HFR.out.size) (Nat.le_refl _) (by omega) (by omega)).mono ?_
        rintro e w3 ⟨A3, c3, rfl, o3, f3⟩
        rw [List.nil_append, HP.out] at o3 ⊢
        obtain ⟨n3, hn3⟩ : ∃ n3, P.length = n3 := ⟨_, rfl⟩
        rw [hn3] at o3 hpl hcutf ⊢
        have hrm1 := Int.lt_tmod_of_pos a3 (b := (n3 : Int)) (by omega)
        have hrm2 := Int.tmod_lt_of_pos a3 (b := (n3 : Int)) (by omega)
        obtain ⟨k, hkk⟩ : ∃ k : Nat, (a3.tmod (n3 : Int) + (n3 : Int)) % (n3 : Int) = (k : Int) :=
          ⟨((a3.tmod (n3 : Int) + (n3 : Int)) % (n3 : Int)).toNat, (Int.toNat_of_nonneg (Int.emod_nonneg _ (by omega))).symm⟩
        have hkm : k < n3 := by
          have := Int.emod_lt_of_pos (a3.tmod (n3 : Int) + (n3 : Int)) (b := (n3 : Int)) (by omega)
          omega
        have hm0 : ((n3 : Int) == 0) = false := by simp; omega
        have hc3 := o3.cap.1
        have hkc : k ≤ c3 := by omega
        have hcut := o3.cut (k := k) (by omega)
        rw [← List.map_take] at hcut
        have htl : (P.take k).length = k := by rw [List.length_take]; omega
        have hT : allT a1 (q ++ P.take k) = ⟨rs, q.length⟩ := by
          rw [HQ.out]
          refine allT_frames a1 rs (P.take k) (fun r hr => by have := HALL.out r hr; omega) ?_
          rcases Nat.eq_zero_or_pos k with h0 | h0
          · exact .inl (by rw [h0]; rfl)
          · refine .inr ?_
            rw [hcutf k hkm]
            simp [frmE]
        generalize hys : P.take k = ys at *
        have hnn : A3 = none → k = 0 := fun h => by have := o3.len.2 h; omega
        obtain ⟨m3, hm3⟩ : ∃ m3, q.length = m3 := ⟨_, rfl⟩
        rw [hm3] at hql hT
        have ho4 := HO.out.frNo f3
        rw [hm3] at ho4
        rw [hm3]
        have hs3 := f3.size
        have F3 : Fr No w w3 := HFR.out.transNo f3
        have O3 := Lib.hid o3
        have HCUT := Lib.hid hcut
        have HTL := Lib.hid htl
        have HNN := Lib.hid hnn
        have HYS := Lib.hid hys
        have HM3 := Lib.hid hm3
        have HT := Lib.hid hT
        have HN3 := Lib.hid hn3
        have HO4 := Lib.hid ho4
        clear o3 hcut htl hnn hys hm3 hT hn3 ho4
        clear HO f3 hcutf
        go_upto_region 12 with fail
        rw [hkk]
        clear hkk hrm1 hrm2 hm0
        go_cut [13, 14] (fun x y wx => Rec12 rs m3 w x y wx)
        case first =>
          have hki : (0 : Int) ≤ (k : Int) := by omega
          have hki2 : (k : Int) ≤ (c3 : Int) := by omega
          go_region_held3 (fun V => Fr No w3 V) (exact (by repeat (first | assumption | exact Fr.refl _ _ | refine Fr.alloc ?_ _ | refine Fr.drew ?_ | refine Fr.drewN ?_ _))) (first
            | (refine step_append_rd _ (by rfl) (.tmp 54) (.tmp 55) _ (by rfl) 0 5 i0 _ 1 Try.underlying22 hi0 hz0 hz1 hz2 rfl (.slice (some ⟨w3.heap.size, 0, none⟩) 0 0) 0 [] (by rfl) (by exact (Own.made w3 5).1) w3.heap.size A' m3 c' (q.map bv) (by rfl) HO4.out.len.2 (HO4.out.rd.frNo (by repeat (first | assumption | exact Fr.refl _ _ | refine Fr.alloc ?_ _ | refine Fr.drew ?_ | refine Fr.drewN ?_ _)) (Nat.le_refl _)) (by rw [List.length_map, HM3.out]) (bv_one _) (by unfold maxLen; omega) (by omega) (Nat.zero_le _) ?_; intro v1 w4 happ; obtain ⟨o4, f4⟩ := Own.copied (w := w3) happ rfl (by rw [List.length_map, HM3.out]); have F4 : Fr No w3 w4 := Fr.transNew (by repeat (first | assumption | exact Fr.refl _ _ | refine Fr.alloc ?_ _ | refine Fr.drew ?_ | refine Fr.drewN ?_ _)) f4 (fun i hi => hi); obtain ⟨A4, c4, rfl, n4⟩ := o4.form; rw [List.length_map, HM3.out] at o4 ⊢; have O4 := Lib.hid o4; have hs4 := F4.size; clear happ o4 f4 n4)
            | (refine step_append_rd _ (by rfl) (.tmp 56) (.tmp 59) _ (by rfl) 0 5 i0 _ 1 Try.underlying22 hi0 hz0 hz1 hz2 rfl (.slice A4 m3 c4) m3 (q.map bv) (by rfl) (by exact O4.out.own (by rw [List.length_map, HM3.out])) w3.heap.size A3 k c3 (ys.map bv) (by rfl) HNN.out (HCUT.out.rd.frNo (by repeat (first | assumption | exact Fr.refl _ _ | refine Fr.alloc ?_ _ | refine Fr.drew ?_ | refine Fr.drewN ?_ _)) (Nat.le_refl _)) (by rw [List.length_map, HTL.out]) (bv_one _) (by unfold maxLen; omega) (by omega) (Nat.zero_le _) ?_; intro v1 w5 happ; obtain ⟨o5, f5⟩ := O4.out.appendedNew (B := w3.heap.size) hs4 (by rw [List.length_map, HM3.out]) (by rw [List.length_map, HTL.out]) happ; rw [← List.map_append] at o5; have F5 : Fr No w3 w5 := F4.transNew f5 (fun i hi => hi); obtain ⟨A5, c5, rfl, n5⟩ := o5.form; have e5 : ((q ++ ys).map bv).length = m3 + k := (by rw [List.length_map, List.length_append, HM3.out, HTL.out]); rw [e5] at o5 ⊢; have O5 := Lib.hid o5; clear happ o5 f5 n5 e5)
            | (go_at_call 19; refine (all_any A5 (m3 + k) c5 a1 (q ++ ys) _ w5.heap.size O5.out.len.2 (by rw [List.length_append, HM3.out, HTL.out]) (O5.out.frNo (by repeat (first | assumption | exact Fr.refl _ _ | refine Fr.alloc ?_ _ | refine Fr.drew ?_ | refine Fr.drewN ?_ _))).rd (Fr.size (F := No) (by repeat (first | assumption | exact Fr.refl _ _ | refine Fr.alloc ?_ _ | refine Fr.drew ?_ | refine Fr.drewN ?_ _))) (by omega) O5.out.cap.1).mono ?_; rw [HT.out]; rintro e w6 ⟨A6, c6, rfl, n6, k6, r6, f6⟩; have F6 : Fr No w3 w6 := F5.transNo (Fr.transNo (by repeat (first | assumption | exact Fr.refl _ _ | refine Fr.alloc ?_ _ | refine Fr.drew ?_ | refine Fr.drewN ?_ _)) f6); have R6 := Lib.hid r6; clear n6 k6 r6 f6))
          all_goals
            go_wp2_with fail
            go_meet
            exact ⟨A6, c6, rfl, rfl, R6.out, F3.transNo F6⟩
        case rest =>
          obtain ⟨A6, c6, rfl, rfl, r6, f6⟩ := hcut
          obtain ⟨W, rfl⟩ : ∃ W : World, W = wc := ⟨_, rfl⟩
          have hself : (rs == rs) = true := by simp
          have hmm : ((m3 : Int) == (m3 : Int)) = true := by simp
          have R6 := Lib.hid r6
          have F6 := Lib.hid f6
          clear r6 f6
          go_wp2_with fail
          refine (awake3_any _).mono ?_
          rintro e w7 ⟨rfl, f7⟩
          have R7 := Lib.hid (R6.out.no f7)
          have F7 := Lib.hid (F6.out.transNo f7)
          clear f7
          go_wp2_with fail
          refine (same_rows A6 A _ c6 len cap rs rs _ rfl HCN.out R7.out (HROWS.out.no F7.out) (by rw [HCN.out]; omega)).mono ?_
          rintro e w8 ⟨rfl, j, rfl⟩
          rw [hself]
          go_wp2_with fail
          go_ret
          exact ⟨ret_bool rfl, (F7.out.drewN j).belowNo⟩
  · have t3 : decide ((300 : Int) < (len2 : Int)) = true := by simp; omega
    go_wp2_with fail
    refine (awake3_any _).mono ?_
    rintro e w5 ⟨rfl, f5⟩
    go_wp2_with fail
    go_ret
    exact ⟨ret_bool rfl, f5.belowNo⟩
end Go.Proofs.Ytchdgnahnbepoaa
