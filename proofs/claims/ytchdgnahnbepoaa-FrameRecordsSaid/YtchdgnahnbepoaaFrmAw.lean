/-
  The walks of FrameAll and FrameRecords.
-/
import Derived.Test.YtchdgnahnbepoaaFrmA
import Derived.Test.YtchdgnahnbepoaaFrmLaws
import Derived.Test.YtchdgnahnbepoaaRow
import Derived.Deep.RegionHeld3
import Derived.Deep.DeepCutAuto
namespace Go.Proofs.Ytchdgnahnbepoaa
open Go.ChangeShapes Go.WideShapes Go.ChangeAt Go.RowKit
set_option linter.unusedVariables false

/-- What the frame hands over of a slice of byte strings. -/
def In_rows (w : World) (v : Value) : Prop := ∃ A len cap rs, v = .slice A len cap ∧ rs.length = len ∧ len ≤ maxLen ∧ (A = none → len = 0) ∧ RowsAt w A rs

theorem IsRow.opens {w : World} {a : Option Addr} {len cap : Nat} {zs : List Int} (h : IsRow .u8 w a len cap zs) :
    ∃ l : List UInt8, l.length = len ∧ len ≤ cap ∧ cap ≤ maxLen ∧ (a = none → len = 0) ∧ Rd w w.heap.size a (l.map bv) := by
  obtain ⟨l, h1, h2, h3, h4, h5⟩ := h.open_
  obtain ⟨_, _, _, _, _, h6, _⟩ := h.bytes
  exact ⟨l, h1, h3, h6, h4, h5⟩

theorem in_rows {H : Type} {enc : TypeId × Value → H} {W : World} {b0 : Nat} {v : Value} {d : DataW H} {p : List MemPlace} {X : Prop} (hv : Value.okWide Try.prog W .any b0 35 v)
    (h : DataW.Trod enc Try.prog W 0 (fun _ => true) true 35 v d p) (_ : X) : In_rows W v := by
  obtain ⟨A, len, cap, xs, rfl, he⟩ := open_elems Try.underlying35 1 (by kernel_rfl) hv h (fun cs => ∃ e : BRow, cs = [e.v] ∧ e.ok W) (fun n cs y hl ht => by
    match cs, hl with
    | [c], _ =>
      obtain ⟨a, len, cap, zs, rfl, hrow⟩ := open_isRow Try.underlying22 Try.underlying5 (by kernel_rfl) ht
      obtain ⟨l, h1, h2, h3, h4, h5⟩ := hrow.opens
      exact ⟨⟨a, cap, l⟩, by simp [BRow.v, h1], by rw [h1]; exact h4, by rw [h1]; exact h2, h5⟩)
  have hch : ∀ xs : List (List Value), (∀ x ∈ xs, ∃ e : BRow, x = [e.v] ∧ e.ok W) → ∃ es : List BRow, xs.flatten = es.map BRow.v ∧ es.length = xs.length ∧ ∀ e ∈ es, e.ok W := by
    intro xs
    induction xs with
    | nil => exact fun _ => ⟨[], rfl, rfl, fun a ha => by cases ha⟩
    | cons x xs ih =>
      intro hx
      obtain ⟨a, e1, h1⟩ := hx x (by simp)
      obtain ⟨ls, e2, e3, h2⟩ := ih fun y hy => hx y (by simp [hy])
      refine ⟨a :: ls, by rw [List.flatten_cons, e1, e2]; rfl, by simp [e3], fun y hy => ?_⟩
      rcases List.mem_cons.1 hy with rfl | hy
      · exact h1
      · exact h2 y hy
  obtain ⟨es, e1, e2, e3⟩ := hch xs fun x hx => (he.each x hx).2
  refine ⟨A, len, cap, es.map (·.b), rfl, by rw [List.length_map, e2, he.count], Nat.le_trans he.room he.most, he.nil_, es, rfl, ?_, e3⟩
  rw [← e1]
  exact he.reads

/-- What 'few' answers. -/
def FewTo3 (rs : List (List UInt8)) (w : World) (e : Ending) (w' : World) : Prop := ∃ f : Bool, e = .returned (.bool f) ∧ (f = true → rs.length ≤ 20 ∧ ∀ r ∈ rs, r.length ≤ 300) ∧ w = w'

theorem few3 (w0 w : World) (A : Option Addr) (len cap : Nat) (rs : List (List UInt8)) (h : RowsAt w0 A rs) (hcn : rs.length = len) (hM : len ≤ maxLen) (hf : Fr No w0 w) :
    Calls Try.prog 17 #[.slice A len cap] w (FewTo3 rs w) := by
  unfold maxLen at hM
  have H := Lib.hid h
  have HF := Lib.hid hf
  have HCN := Lib.hid hcn
  clear h hf hcn
  by_cases h0 : len ≤ 20
  · go_enter Try.func17, Try.ntmps17
    go_wp2_with fail
    go_loop [3] (fun i => ∃ m : Nat, m ≤ len ∧ i = .int .i64 m ∧ ∀ r ∈ rs.take m, r.length ≤ 300) (fun i => len - (intOf i).toNat)
    case atStart => exact ⟨0, Nat.zero_le _, rfl, by simp⟩
    case round =>
      obtain ⟨m, hm, rfl, hall⟩ := hrel
      by_cases hlt : m < len
      · obtain ⟨b, off, a, rfl, ha, hok, hc⟩ := H.out.at_ (i := m) (by rw [HCN.out]; exact hlt)
        have c0 := hc w HF.out
        have HALL := Lib.hid hall
        have HA := Lib.hid ha
        clear hall ha
        clear hc
        by_cases hb : a.b.length ≤ 300
        · have t1 : decide ((300 : Int) < (a.b.length : Int)) = false := by simp; omega
          go_wp2_with fail
          go_round
          case rel =>
            refine ⟨m + 1, by omega, by go_num, ?_⟩
            rw [List.take_add_one, HA.out]
            intro x hx
            simp at hx
            rcases hx with hx | rfl
            · exact HALL.out x hx
            · exact hb
          case measure => simp [intOf]; omega
        · have t1 : decide ((300 : Int) < (a.b.length : Int)) = true := by simp; omega
          go_wp2_with fail
          go_ret
          exact ⟨false, rfl, (fun h => by cases h), rfl⟩
      · have ht : rs.take m = rs := List.take_of_length_le (by rw [HCN.out]; omega)
        rw [ht] at hall
        have HALL := Lib.hid hall
        clear hall
        clear ht
        go_wp2_with fail
        go_ret
        exact ⟨true, rfl, fun _ => ⟨by rw [HCN.out]; exact h0, HALL.out⟩, rfl⟩
  · go_enter Try.func17, Try.ntmps17
    go_wp2_with fail
    go_ret
    exact ⟨false, rfl, (fun h => by cases h), rfl⟩

theorem frames_len (key : Int) (rs : List (List UInt8)) (h : ∀ r ∈ rs, r.length ≤ 300) : (frames key rs).length ≤ 318 * rs.length := by
  induction rs with
  | nil => simp [frames]
  | cons r rs ih =>
    have h1 := putN_lenP key r (by have := h r (by simp); omega)
    have h2 := ih fun x hx => h x (by simp [hx])
    have h3 := h r (by simp)
    rw [frames_cons, List.length_append, List.length_cons]
    omega

theorem frames_snoc (key : Int) (rs : List (List UInt8)) (r : List UInt8) : frames key (rs ++ [r]) = frames key rs ++ putN key r := by simp [frames]

set_option maxHeartbeats 1000000 in
theorem whole_any (w0 w : World) (A : Option Addr) (len cap : Nat) (key : Int) (rs : List (List UInt8)) (h : RowsAt w0 A rs) (hcn : rs.length = len) (hf : Fr No w0 w) (h20 : len ≤ 20) (hall : ∀ r ∈ rs, r.length ≤ 300) :
    Calls Try.prog 18 #[.slice A len cap, .int .i64 key] w (PutTo w (frames key rs)) := by
  have H := Lib.hid h
  have HF := Lib.hid hf
  have HCN := Lib.hid hcn
  have HALL := Lib.hid hall
  clear h hf hcn hall
  go_enter Try.func18, Try.ntmps18
  go_wp2_with fail
  go_loopw [5, 6] (fun v i wr => ∃ (m : Nat) (A' : Option Addr) (c' : Nat) (q : List UInt8), m ≤ len ∧ i = .int .i64 m ∧ q = frames key (rs.take m) ∧ v = .slice A' q.length c' ∧ Own wr (fun i => w.heap.size ≤ i) 5 (.slice A' q.length c') (q.map bv) ∧ q.length ≤ 6360 ∧ Fr No w wr) (fun _ i _ => len - (intOf i).toNat)
  case atStart => exact ⟨0, none, 0, [], Nat.zero_le _, rfl, by simp [frames], rfl, Own.nil _ _ _, by simp, Fr.refl _ _⟩
  case round =>
    obtain ⟨m, A', c', q, hm, rfl, hq, rfl, ho, hql, hfr⟩ := hrel
    by_cases hlt : m < len
    · obtain ⟨b, off, a, rfl, ha, hok, hc⟩ := H.out.at_ (i := m) (by rw [HCN.out]; exact hlt)
      have c0 := hc wr (HF.out.transNo hfr)
      have hab := HALL.out a.b (List.mem_of_getElem? ha)
      have hnext : frames key (rs.take (m + 1)) = q ++ putN key a.b := by rw [List.take_add_one, ha, hq]; exact frames_snoc _ _ _
      have hnl : (q ++ putN key a.b).length ≤ 6360 := by
        rw [← hnext]
        have := frames_len key (rs.take (m + 1)) (fun r hr => HALL.out r (List.mem_of_mem_take hr))
        rw [List.length_take] at this
        omega
      have R1 := Lib.hid (((hok.rd.frNo (HF.out.transNo hfr) (Nat.le_refl _)).mono (HF.out.transNo hfr).size))
      have hs := hfr.size
      have HQ := Lib.hid hq
      have HO := Lib.hid ho
      have HFR := Lib.hid hfr
      have HNEXT := Lib.hid hnext
      have HOK := Lib.hid hok
      clear hq ho hfr hnext hok
      clear hc
      go_wp2_with fail
      refine (rput_short A' q.length c' key a.A a.b.length a.c q a.b wr wr.heap.size HO.out.len.2 rfl HO.out.rd HOK.out.nil_ rfl R1.out (Nat.le_refl _) (by omega) (by omega)).mono ?_
      rintro e w2 ⟨A2, c2, rfl, o2, f2⟩
      have O2 := Lib.hid (o2.mono (G := fun i => w.heap.size ≤ i) fun i hi => Nat.le_trans hs hi)
      have F2 := Lib.hid (HFR.out.transNo f2)
      clear o2 f2
      go_wp2_with fail
      go_roundw
      case rel => exact ⟨m + 1, A2, c2, q ++ putN key a.b, by omega, by go_num, HNEXT.out.symm, by rw [List.length_append], O2.out, hnl, F2.out⟩
      case measure => simp [intOf]; omega
    · rw [List.take_of_length_le (by rw [HCN.out]; omega)] at hq
      subst hq
      have HO := Lib.hid ho
      have HFR := Lib.hid hfr
      clear ho hfr
      go_wp2_with fail
      go_ret
      exact ⟨A', c', rfl, HO.out, HFR.out⟩

theorem allG_small (key : Int) (l : List UInt8) : ∀ (f p : Nat) (acc : List (List UInt8)), (allG key f l p acc).r.length ≤ acc.length + (l.length - p) := by
  intro f
  induction f with
  | zero => intro p acc; simp [allG]
  | succ f ih =>
    intro p acc
    rw [allG]
    by_cases h1 : p < l.length
    · rw [if_pos h1]
      by_cases h2 : (takeFr key (l.drop p)).e = 0
      · rw [if_pos h2]
        have h3 := takeFr_k key _ h2
        have h4 := ih (p + (takeFr key (l.drop p)).k) (acc ++ [(takeFr key (l.drop p)).p])
        rw [List.length_append, List.length_singleton] at h4
        omega
      · rw [if_neg h2]; simp
    · rw [if_neg h1]; simp
theorem allT_small (key : Int) (l : List UInt8) : (allT key l).r.length ≤ l.length := by
  have := allG_small key l (l.length + 1) 0 []
  simpa [allT] using this

/-- The loop over the four byte strings of FrameAll: what was made ahead of it. -/
def All5 (w2 : World) (x : Value) (wx : World) : Prop := ∃ b rs, x = .slice (some ⟨b, 0, none⟩) 4 4 ∧ rs.length = 4 ∧ RowsAt wx (some ⟨b, 0, none⟩) rs ∧ (∀ r ∈ rs, r.length ≤ 10000) ∧ Fr No w2 wx

set_option maxRecDepth 100000 in
set_option maxHeartbeats 2000000 in
theorem FrameAll_walk (v0 : Value) (a1 : Int) (a2 : Int) (a3 : Option Addr) (len3 cap3 : Nat) (z3 : List Int) (w : World) (w0 : In_rows w v0) (_w1 : (Lit.int .i64 a1).wf = true) (_w2 : (Lit.int .i64 a2).wf = true) (w3 : IsRow .u8 w a3 len3 cap3 z3) (_s3 : cap3 * 1 ≤ 140737488351232) :
    Calls Try.prog 9 #[v0, .int .i64 a1, .int .i64 a2, .slice a3 len3 cap3] w fun e w' => e = .returned (.bool true) ∧ Below w.heap.size w w' := by
  obtain ⟨A, len, cap, rs, rfl, hcn, hM, hnil, hrows⟩ := w0
  obtain ⟨l, hl, hlc, -, hn, hr⟩ := w3.opens
  obtain ⟨i0, hi0, hz0, hz1, hz2⟩ := info_parts bytes_info
  clear w3 _w1 _w2
  have HCN := Lib.hid hcn
  have HNIL := Lib.hid hnil
  have HROWS := Lib.hid hrows
  have HL := Lib.hid hl
  have HN := Lib.hid hn
  have HR := Lib.hid hr
  clear hcn hnil hrows hl hn hr
  go_enter Try.func9, Try.ntmps9
  go_wp2_with fail
  refine (few3 w _ A len cap rs HROWS.out HCN.out hM (Fr.refl _ _)).mono ?_
  rintro e w1 ⟨f, rfl, hfew, rfl⟩
  cases f
  · go_wp2_with fail
    refine (awake3_any _).mono ?_
    rintro e w5 ⟨rfl, f5⟩
    go_wp2_with fail
    go_ret
    exact ⟨ret_bool rfl, f5.belowNo⟩
  obtain ⟨h20, hall⟩ := hfew rfl
  rw [HCN.out] at h20
  clear hfew
  by_cases h3 : len3 ≤ 300
  · have t3 : decide ((300 : Int) < (len3 : Int)) = false := by simp; omega
    have hfl := frames_len a1 rs hall
    rw [HCN.out] at hfl
    have HALL := Lib.hid hall
    clear hall
    generalize hfs : frames a1 rs = fs at *
    obtain ⟨m, hm⟩ : ∃ m, fs.length = m := ⟨_, rfl⟩
    rw [hm] at hfl
    have HFS := Lib.hid hfs
    clear hfs
    go_wp2_with fail
    refine (whole_any w _ A len cap a1 rs HROWS.out HCN.out (Fr.refl _ _) h20 HALL.out).mono ?_
    rintro e w2 ⟨A2, c2, rfl, o2, f2⟩
    rw [HFS.out, hm] at o2 ⊢
    have hrm1 := Int.lt_tmod_of_pos a2 (b := (m : Int) + 1) (by omega)
    have hrm2 := Int.tmod_lt_of_pos a2 (b := (m : Int) + 1) (by omega)
    obtain ⟨k, hkk⟩ : ∃ k : Nat, (a2.tmod ((m : Int) + 1) + (m : Int) + 1) % ((m : Int) + 1) = (k : Int) :=
      ⟨((a2.tmod ((m : Int) + 1) + (m : Int) + 1) % ((m : Int) + 1)).toNat, (Int.toNat_of_nonneg (Int.emod_nonneg _ (by omega))).symm⟩
    have hkm : k ≤ m := by
      have := Int.emod_lt_of_pos (a2.tmod ((m : Int) + 1) + (m : Int) + 1) (b := (m : Int) + 1) (by omega)
      omega
    have hm0 : ((m : Int) + 1 == 0) = false := by simp; omega
    have hc2 := o2.cap.1
    have hkc : k ≤ c2 := by omega
    have hcut := o2.cut (k := k) hkm
    rw [← List.map_take] at hcut
    have htl : (fs.take k).length = k := by rw [List.length_take]; omega
    generalize hys : fs.take k = ys at *
    have hnn : A2 = none → k = 0 := fun h => by have := o2.len.2 h; omega
    have hnm := o2.len.2
    have O2 := Lib.hid o2
    have F2 := Lib.hid f2
    have HCUT := Lib.hid hcut
    have HTL := Lib.hid htl
    have HNN := Lib.hid hnn
    have HYS := Lib.hid hys
    have HM := Lib.hid hm
    have HNM := Lib.hid hnm
    clear o2 f2 hcut htl hnn hys hm hnm
    go_upto_region 5 with fail
    rw [hkk]
    clear hkk hrm1 hrm2 hm0
    go_cut [11] (fun x wx => All5 w2 x wx)
    case first =>
      have hki : (0 : Int) ≤ (k : Int) := by omega
      have hki2 : (k : Int) ≤ (c2 : Int) := by omega
      go_region_held3 (fun V => Fr No w2 V) (exact (by repeat (first | assumption | exact Fr.refl _ _ | refine Fr.alloc ?_ _ | refine Fr.drew ?_ | refine Fr.drewN ?_ _))) (first
        | (refine step_append_rd _ (by rfl) (.tmp 46) (.tmp 49) _ (by rfl) 0 5 i0 _ 1 Try.underlying22 hi0 hz0 hz1 hz2 rfl (.slice (some ⟨w2.heap.size, 0, none⟩) 0 0) 0 [] (by rfl) (by exact (Own.made w2 5).1) w2.heap.size A2 k c2 (ys.map bv) (by rfl) HNN.out (HCUT.out.rd.frNo (by repeat (first | assumption | exact Fr.refl _ _ | refine Fr.alloc ?_ _ | refine Fr.drew ?_ | refine Fr.drewN ?_ _)) (Nat.le_refl _)) (by rw [List.length_map, HTL.out]) (bv_one _) (by unfold maxLen; omega) (by omega) (Nat.zero_le _) ?_; intro v1 w4 happ; obtain ⟨o4, f4⟩ := Own.copied (w := w2) happ rfl (by rw [List.length_map, HTL.out]); have F4 : Fr No w2 w4 := Fr.transNew (by repeat (first | assumption | exact Fr.refl _ _ | refine Fr.alloc ?_ _ | refine Fr.drew ?_ | refine Fr.drewN ?_ _)) f4 (fun i hi => hi); obtain ⟨A4, c4, rfl, n4⟩ := o4.form; rw [List.length_map, HTL.out] at o4 ⊢; have O4 := Lib.hid o4; have hs4 := F4.size; clear happ o4 f4 n4)
        | (refine step_append_rd _ (by rfl) (.tmp 50) (.tmp 51) _ (by rfl) 0 5 i0 _ 1 Try.underlying22 hi0 hz0 hz1 hz2 rfl (.slice A4 k c4) k (ys.map bv) (by rfl) (by exact O4.out.own (by rw [List.length_map, HTL.out])) w.heap.size a3 len3 cap3 (l.map bv) (by rfl) HN.out (HR.out.frNo (F2.out.transNo (by repeat (first | assumption | exact Fr.refl _ _ | refine Fr.alloc ?_ _ | refine Fr.drew ?_ | refine Fr.drewN ?_ _))) (Nat.le_refl _)) (by rw [List.length_map, HL.out]) (bv_one _) (by unfold maxLen; omega) (by omega) (Nat.zero_le _) ?_; intro v1 w5 happ; obtain ⟨o5, f5⟩ := O4.out.appendedNew (B := w2.heap.size) hs4 (by rw [List.length_map, HTL.out]) (by rw [List.length_map, HL.out]) happ; rw [← List.map_append] at o5; have F5 : Fr No w2 w5 := F4.transNew f5 (fun i hi => hi); obtain ⟨A5, c5, rfl, n5⟩ := o5.form; rw [List.length_map] at o5 ⊢; have O5 := Lib.hid o5; clear happ o5 f5 n5))
      all_goals
        go_wp2_with fail
        go_meet
        have hm := HM.out
        have hll := HL.out
        have htl := HTL.out
        have F6 := F5.alloc (.cells #[.slice A2 m c2, .slice A2 k c2, .slice A5 (ys.length + l.length) c5, .slice a3 len3 cap3] 22)
        refine ⟨_, [fs, ys, ys ++ l, l], rfl, rfl, ⟨[⟨A2, c2, fs⟩, ⟨A2, c2, ys⟩, ⟨A5, c5, ys ++ l⟩, ⟨a3, cap3, l⟩], rfl, ?_, ?_⟩, ?_, F6⟩
        · have heq : ([⟨A2, c2, fs⟩, ⟨A2, c2, ys⟩, ⟨A5, c5, ys ++ l⟩, ⟨a3, cap3, l⟩] : List BRow).map BRow.v = [.slice A2 m c2, .slice A2 k c2, .slice A5 (ys.length + l.length) c5, .slice a3 len3 cap3] := by simp [BRow.v, hm, htl, hll]
          rw [heq]
          exact (Rd.new w5 _ 22 rfl).mono (by simp)
        · intro e he
          simp only [List.mem_cons, List.not_mem_nil, or_false] at he
          rcases he with rfl | rfl | rfl | rfl
          · exact ⟨by simp only [hm]; exact HNM.out, by simp only [hm]; exact hc2, ((O2.out.rd.frNo F6 (Nat.le_refl _)).mono F6.size)⟩
          · exact ⟨by simp only [htl]; exact HNN.out, by simp only [htl]; exact hkc, ((HCUT.out.rd.frNo F6 (Nat.le_refl _)).mono F6.size)⟩
          · exact ⟨O5.out.len.2, O5.out.cap.1, (O5.out.frNo (fr_alloc w5 _)).rd⟩
          · exact ⟨by simp only [hll]; exact HN.out, by simp only [hll]; exact hlc, ((HR.out.frNo (F2.out.transNo F6) (Nat.le_refl _)).mono (F2.out.transNo F6).size)⟩
        · intro q hq
          simp only [List.mem_cons, List.not_mem_nil, or_false] at hq
          rcases hq with rfl | rfl | rfl | rfl
          · omega
          · omega
          · rw [List.length_append]; omega
          · omega
    case rest =>
      obtain ⟨b, xs4, rfl, h4, hrw, hsz, hf4⟩ := hcut
      obtain ⟨W, rfl⟩ : ∃ W : World, W = wc := ⟨_, rfl⟩
      have G4 := Lib.hid (F2.out.transNo hf4)
      have HRW := Lib.hid hrw
      have HSZ := Lib.hid hsz
      have H4 := Lib.hid h4
      clear hrw hsz h4
      clear O2 F2 HCUT HNN HNM hf4
      go_wp2_with fail
      go_loopw [12] (fun i wr => ∃ j : Nat, j ≤ 4 ∧ i = .int .i64 j ∧ Fr No W wr) (fun i _ => 4 - (intOf i).toNat)
      case atStart => exact ⟨0, by omega, rfl, Fr.refl _ _⟩
      case round =>
        obtain ⟨j, hj, rfl, hfr⟩ := hrel
        by_cases hlt : j < 4
        · obtain ⟨b', off, e, he1, he2, hok, hc⟩ := HRW.out.at_ (i := j) (by rw [H4.out]; exact hlt)
          injection he1 with he1
          injection he1 with e1 e2
          subst e1 e2
          have hel := HSZ.out e.b (List.mem_of_getElem? he2)
          have x1 := hc wr hfr
          rw [Nat.zero_add] at x1
          have hC1 : ∀ V : World, Fr No W V → Calls Try.prog 19 #[.slice e.A e.b.length e.c, .int .i64 a1] V (AllTo V (allT a1 e.b)) := fun V hV => all_any e.A e.b.length e.c a1 e.b V W.heap.size hok.nil_ rfl (hok.rd.frNo hV (Nat.le_refl _)) hV.size (by omega) hok.room
          have hC2 : ∀ V : World, Fr No W V → Calls Try.prog 20 #[.slice e.A e.b.length e.c, .int .i64 a1] V (AllTo V (allT a1 e.b)) := fun V hV => rall_any e.A e.b.length e.c a1 e.b V W.heap.size hok.nil_ rfl (hok.rd.frNo hV (Nat.le_refl _)) hV.size (by omega) hok.room
          have hxall : ∀ V : World, Fr No W V → V.cell? ⟨b, j, none⟩ = some (.slice e.A e.b.length e.c) := fun V hV => by have := hc V hV; rwa [Nat.zero_add] at this
          have hts := allT_small a1 e.b
          generalize allT a1 e.b = T at *
          have hself : (T.r == T.r) = true := by simp
          have HC1 := Lib.hid hC1
          have HC2 := Lib.hid hC2
          have HXALL := Lib.hid hxall
          have HOK := Lib.hid hok
          have HE2 := Lib.hid he2
          clear hC1 hC2 hxall hok he2
          clear hc
          go_wp2_with fail
          refine (HC1.out _ hfr).mono ?_
          rintro r w5 ⟨A5, c5, rfl, n5, k5, r5, f5⟩
          have x5 := HXALL.out w5 (hfr.transNo f5)
          have G5 := Lib.hid (hfr.transNo f5)
          have N5 := Lib.hid n5
          have R5 := Lib.hid r5
          clear n5 r5
          clear f5 x1
          go_wp2_with fail
          refine (HC2.out _ G5.out).mono ?_
          rintro r w6 ⟨A6, c6, rfl, n6, k6, r6, f6⟩
          have RR5 := Lib.hid (R5.out.no f6)
          have G6 := Lib.hid (G5.out.transNo f6)
          have N6 := Lib.hid n6
          have R6 := Lib.hid r6
          clear n6 r6
          clear f6 x5
          go_wp2_with fail
          refine (same_rows A5 A6 _ c5 _ c6 T.r T.r _ rfl rfl RR5.out R6.out (by omega)).mono ?_
          rintro e w7 ⟨rfl, q, rfl⟩
          rw [hself]
          have G7 := Lib.hid (G6.out.drewN q)
          clear hfr
          go_wp2_with fail
          go_roundw
          case rel => exact ⟨j + 1, by omega, by go_num, G7.out⟩
          case measure => simp [intOf]; omega
        · have HFR := Lib.hid hfr
          clear hfr
          go_wp2_with fail
          refine (awake3_any _).mono ?_
          rintro e w5 ⟨rfl, f5⟩
          go_wp2_with fail
          go_ret
          exact ⟨ret_bool rfl, ((G4.out.transNo HFR.out).transNo f5).belowNo⟩
  · have t3 : decide ((300 : Int) < (len3 : Int)) = true := by simp; omega
    go_wp2_with fail
    refine (awake3_any _).mono ?_
    rintro e w5 ⟨rfl, f5⟩
    go_wp2_with fail
    go_ret
    exact ⟨ret_bool rfl, f5.belowNo⟩
end Go.Proofs.Ytchdgnahnbepoaa
