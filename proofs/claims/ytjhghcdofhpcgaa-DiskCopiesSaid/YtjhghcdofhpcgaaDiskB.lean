/-
  The contract of 'both': an act on both disks.
-/
import Derived.Test.YtjhghcdofhpcgaaDiskA
import Derived.Deep.RegionHeld3
import Derived.Deep.DeepCutAuto
import Derived.Deep.CutBlock
namespace Go.Proofs.Ytjhghcdofhpcgaa
open Go.ChangeShapes Go.WideShapes Go.ChangeAt Go.RowKit
set_option linter.unusedVariables false

/-- Both disks in blocks that were made since w0. -/
structure TS (w0 w : World) (F : Nat → Prop) (d r : Nat) (xs : List UInt8) (k : Nat) : Prop where
  it : TwoAt w F d r xs k
  new : ∀ i, F i → w0.heap.size ≤ i
  fr : Fr No w0 w
theorem TS.no {w0 w w' : World} {F : Nat → Prop} {d r k : Nat} {xs : List UInt8} (h : TS w0 w F d r xs k) (hf : Fr No w w') : TS w0 w' F d r xs k := ⟨h.it.frNo hf, h.new, h.fr.transNo hf⟩
theorem TS.to {w0 w w' : World} {F : Nat → Prop} {d r k : Nat} {xs : List UInt8} {s : List UInt8 × Nat} (h : TS w0 w F d r xs k) (t : TwoTo w F d r s w') :
    ∃ F', TS w0 w' F' d r s.1 s.2 ∧ Fr F w w' ∧ ∀ i, F' i → F i ∨ w.heap.size ≤ i := by
  obtain ⟨F', h1, h2, h3⟩ := t
  refine ⟨F', ⟨h1, fun i hi => ?_, h.fr.transNew h3 h.new⟩, h3, h2⟩
  rcases h2 i hi with h4 | h4
  · exact h.new i h4
  · exact Nat.le_trans h.fr.size h4

set_option maxRecDepth 100000 in
set_option maxHeartbeats 4000000 in
theorem both_any (w0 w : World) (F : Nat → Prop) (d r : Nat) (xs : List UInt8) (k : Nat) (h : TS w0 w F d r xs k) (a : DAct) (ha : a.ok w0) (hsz : xs.length + a.b.length ≤ 1000000) :
    Calls Try.prog 18 #[.pointer (some ⟨d, 0, none⟩), .pointer (some ⟨r, 0, none⟩), .agg #[.int .i64 a.which, .int .i64 a.n, .slice a.A a.b.length a.c]] w fun e w' => e = .returned (.bool true) ∧ TwoTo w F d r (actTo a xs k) w' := by
  obtain ⟨wh, n, A, c, b⟩ := a
  simp only at *
  obtain ⟨F1, F2, h1, h2, h3, h4, h5, h6⟩ := h.it
  obtain ⟨A2, c2, b1, b2, b3, b4, b5, r0, r1, fr0, fr1, bn, bcap⟩ := h2.open_
  have hrl : r < w.heap.size := b1.lt
  have hw8 : wh % 8 < 8 := Int.emod_lt_of_pos _ (by omega)
  have hw0 : 0 ≤ wh % 8 := Int.emod_nonneg _ (by omega)
  obtain ⟨N, hN⟩ : ∃ N, N = actNum ⟨wh, n, A, c, b⟩ xs.length := ⟨_, rfl⟩
  unfold actNum at hN
  simp only at hN
  have H := Lib.hid h
  have H1 := Lib.hid h1
  have H2 := Lib.hid h2
  have H3 := Lib.hid h3
  have H4 := Lib.hid h4
  have H5 := Lib.hid h5
  have H6 := Lib.hid h6
  have B1 := Lib.hid b1
  have B3 := Lib.hid b3
  have BN := Lib.hid bn
  have HA := Lib.hid ha
  clear h h1 h2 h3 h4 h5 h6 b1 b3 bn ha
  go_enter Try.func18, Try.ntmps18
  go_upto_if 13 with fail
  have hbw : ∀ j, Fr No w ((w.alloc (.cells #[.int .i64 wh, .int .i64 n, .slice A b.length c] 39)).drewN j) := fun j => ((Fr.refl No w).alloc _).drewN j
  have hbb : ∀ j, Blk ((w.alloc (.cells #[.int .i64 wh, .int .i64 n, .slice A b.length c] 39)).drewN j) w.heap.size 39 #[.int .i64 wh, .int .i64 n, .slice A b.length c] := fun j => Blk.new _ _ _
  have HBW := Lib.hid hbw
  have HBB := Lib.hid hbb
  clear hbw hbb
  go_cut [7] (fun s7 wx => s7 = .int .i64 N ∧ Fr No w wx ∧ Blk wx w.heap.size 39 #[.int .i64 wh, .int .i64 n, .slice A b.length c])
  case first =>
    by_cases ht : bits BinOp.and IntKind.i64 wh 8 = 0
    · rw [if_pos ht] at hN
      subst hN
      have ht' : (bits BinOp.and IntKind.i64 wh 8 != 0) = false := by simp [ht]
      clear ht
      go_wp2_with fail
      go_meet
      exact ⟨rfl, HBW.out 0, HBB.out 0⟩
    · rw [if_neg ht] at hN
      subst hN
      have ht' : (bits BinOp.and IntKind.i64 wh 8 != 0) = true := by simp [ht]
      clear ht
      go_wp2_with fail
      go_quiet ((go_at_call 19; exact quiet_same (between_any _ _ _ _ (by omega) (by omega) (by omega))))
      go_wp2_with fail
      go_meet
      exact ⟨rfl, HBW.out _, HBB.out _⟩
  case rest =>
    obtain ⟨rfl, hfw, hbx⟩ := hcut
    obtain ⟨W, rfl⟩ : ∃ W : World, W = wc := ⟨_, rfl⟩
    have x0 := hbx.cell 0
    have x1 := hbx.cell 1
    have x2 := hbx.cell 2
    simp only [List.getElem?_toArray, List.getElem?_cons_zero, List.getElem?_cons_succ] at x0 x1 x2
    have hxl := hbx.lt
    obtain ⟨s, hs⟩ : ∃ s, actTo ⟨wh, n, A, c, b⟩ xs k = s := ⟨_, rfl⟩
    have hs' := hs
    unfold actTo actNum at hs'
    simp only at hs'
    rw [← hN] at hs'
    have hD : DskAt TDisk W F1 d xs k := H1.out.frNo hfw
    have hR : DskAt TRDisk W F2 r xs k := H2.out.frNo hfw
    have hrd : ∀ w' : World, Fr F1 W w' → Rd w' w0.heap.size A (b.map bv) := fun w' hf => HA.out.rd.frNo ((H.out.fr.transNo hfw).transNew hf fun i hi => H.out.new i (H4.out i hi)) (Nat.le_refl _)
    have hY : ∀ w2 : World, Fr F1 W w2 → w2.cell? ⟨w.heap.size, 2, none⟩ = some (.slice A b.length c) ∧ DskAt TRDisk w2 F2 r xs k := fun w2 hf => ⟨(hbx.fr hf (fun h => by have := H6.out _ (H4.out _ h); omega)).cell 2, hR.fr hf (fun i hi hj => H3.out i hj hi)⟩
    have hfin : ∀ (w2 w3 : World) (ys : List UInt8) (q : Nat), DskTo TDisk W F1 d ys q w2 → DskTo TRDisk w2 F2 r ys q w3 → (ys, q) = s → TwoTo w F d r s w3 := by
      rintro w2 w3 ys q t2 t3 rfl
      have hsz := hfw.size
      obtain ⟨F', k1, k2, k3⟩ := two_step H3.out H4.out H5.out (fun i hi => Nat.lt_of_lt_of_le (H6.out i hi) hsz) t2 t3
      refine ⟨F', k1, fun i hi => ?_, (hfw.mono fun i hi => hi.elim).trans k3 fun i hi => .inl hi⟩
      rcases k2 i hi with h | h
      · exact .inl h
      · exact .inr (Nat.le_trans hsz h)
    have hsame : (xs, k) = s → TwoTo w F d r s W := by
      rintro rfl
      exact ⟨F, H.out.it.frNo hfw, fun i hi => .inl hi, hfw.mono fun i hi => hi.elim⟩
    have hw0' : w0.heap.size ≤ W.heap.size := Nat.le_trans H.out.fr.size hfw.size
    have HW0 := Lib.hid hw0'
    clear r0 r1 fr0 fr1 bcap b2 B1 B3 BN HBW HBB A2 c2 hw0'
    have HS := Lib.hid hs
    have HN := Lib.hid hN
    have HFW := Lib.hid hfw
    have HBX := Lib.hid hbx
    have HD := Lib.hid hD
    have HR := Lib.hid hR
    have HY := Lib.hid hY
    have HFIN := Lib.hid hfin
    have HSAME := Lib.hid hsame
    have HRD := Lib.hid hrd
    clear hs hN hfw hbx hD hR hY hfin hsame hrd
    go_upto_block 0 with (go_at_call 23; refine (mod_any _ _ _ (by omega) (by omega)).mono ?_; rintro e w' ⟨rfl, rfl⟩)
    go_cut [] (fun wx => TwoTo w F d r s wx)
    case first =>
      have hcase : wh % 8 = 0 ∨ wh % 8 = 1 ∨ wh % 8 = 2 ∨ wh % 8 = 3 ∨ wh % 8 = 4 ∨ wh % 8 = 5 ∨ wh % 8 = 6 ∨ wh % 8 = 7 := by omega
      rcases hcase with hm | hm | hm | hm | hm | hm | hm | hm
      · rw [if_pos (by omega)] at hs'
        have HS' := Lib.hid hs'
        clear hs'
        have e0 : (wh % 8 == 0) = true := by rw [hm]; rfl
        have e1 : (wh % 8 == 1) = false := by rw [hm]; rfl
        have e2 : (wh % 8 == 2) = false := by rw [hm]; rfl
        have e3 : (wh % 8 == 3) = false := by rw [hm]; rfl
        clear hm hw8 hw0
        go_wp2_with fail
        refine (disk_append W F1 d xs k HD.out A b.length c b w0.heap.size HA.out.nil_ (HRD.out W (Fr.refl _ _)) rfl (by omega)).mono ?_
        rintro e w2 ⟨rfl, t2⟩
        obtain ⟨y2, z2⟩ := HY.out w2 t2.choose_spec.2.2
        have R2 := Lib.hid (HRD.out w2 t2.choose_spec.2.2)
        have hs2 := t2.choose_spec.2.2.size
        have hs0 := HW0.out
        have T2 := Lib.hid t2
        have Z2 := Lib.hid z2
        clear t2 z2
        go_wp2_with fail
        refine (rdisk_append w2 F2 r xs k Z2.out A b.length c b w0.heap.size HA.out.nil_ R2.out (by omega) rfl (by omega)).mono ?_
        rintro e w3 ⟨rfl, t3⟩
        have T3 := Lib.hid t3
        clear t3
        go_wp2_with fail
        go_meet
        exact HFIN.out w2 w3 _ _ T2.out T3.out HS'.out
      · rw [if_pos (by omega)] at hs'
        have HS' := Lib.hid hs'
        clear hs'
        have e0 : (wh % 8 == 0) = false := by rw [hm]; rfl
        have e1 : (wh % 8 == 1) = true := by rw [hm]; rfl
        have e2 : (wh % 8 == 2) = false := by rw [hm]; rfl
        have e3 : (wh % 8 == 3) = false := by rw [hm]; rfl
        clear hm hw8 hw0
        go_wp2_with fail
        refine (disk_append W F1 d xs k HD.out A b.length c b w0.heap.size HA.out.nil_ (HRD.out W (Fr.refl _ _)) rfl (by omega)).mono ?_
        rintro e w2 ⟨rfl, t2⟩
        obtain ⟨y2, z2⟩ := HY.out w2 t2.choose_spec.2.2
        have R2 := Lib.hid (HRD.out w2 t2.choose_spec.2.2)
        have hs2 := t2.choose_spec.2.2.size
        have hs0 := HW0.out
        have T2 := Lib.hid t2
        have Z2 := Lib.hid z2
        clear t2 z2
        go_wp2_with fail
        refine (rdisk_append w2 F2 r xs k Z2.out A b.length c b w0.heap.size HA.out.nil_ R2.out (by omega) rfl (by omega)).mono ?_
        rintro e w3 ⟨rfl, t3⟩
        have T3 := Lib.hid t3
        clear t3
        go_wp2_with fail
        go_meet
        exact HFIN.out w2 w3 _ _ T2.out T3.out HS'.out
      · rw [if_pos (by omega)] at hs'
        have HS' := Lib.hid hs'
        clear hs'
        have e0 : (wh % 8 == 0) = false := by rw [hm]; rfl
        have e1 : (wh % 8 == 1) = false := by rw [hm]; rfl
        have e2 : (wh % 8 == 2) = true := by rw [hm]; rfl
        have e3 : (wh % 8 == 3) = false := by rw [hm]; rfl
        clear hm hw8 hw0
        go_wp2_with fail
        refine (disk_append W F1 d xs k HD.out A b.length c b w0.heap.size HA.out.nil_ (HRD.out W (Fr.refl _ _)) rfl (by omega)).mono ?_
        rintro e w2 ⟨rfl, t2⟩
        obtain ⟨y2, z2⟩ := HY.out w2 t2.choose_spec.2.2
        have R2 := Lib.hid (HRD.out w2 t2.choose_spec.2.2)
        have hs2 := t2.choose_spec.2.2.size
        have hs0 := HW0.out
        have T2 := Lib.hid t2
        have Z2 := Lib.hid z2
        clear t2 z2
        go_wp2_with fail
        refine (rdisk_append w2 F2 r xs k Z2.out A b.length c b w0.heap.size HA.out.nil_ R2.out (by omega) rfl (by omega)).mono ?_
        rintro e w3 ⟨rfl, t3⟩
        have T3 := Lib.hid t3
        clear t3
        go_wp2_with fail
        go_meet
        exact HFIN.out w2 w3 _ _ T2.out T3.out HS'.out
      · rw [if_pos (by omega)] at hs'
        have HS' := Lib.hid hs'
        clear hs'
        have e0 : (wh % 8 == 0) = false := by rw [hm]; rfl
        have e1 : (wh % 8 == 1) = false := by rw [hm]; rfl
        have e2 : (wh % 8 == 2) = false := by rw [hm]; rfl
        have e3 : (wh % 8 == 3) = true := by rw [hm]; rfl
        clear hm hw8 hw0
        go_wp2_with fail
        refine (disk_append W F1 d xs k HD.out A b.length c b w0.heap.size HA.out.nil_ (HRD.out W (Fr.refl _ _)) rfl (by omega)).mono ?_
        rintro e w2 ⟨rfl, t2⟩
        obtain ⟨y2, z2⟩ := HY.out w2 t2.choose_spec.2.2
        have R2 := Lib.hid (HRD.out w2 t2.choose_spec.2.2)
        have hs2 := t2.choose_spec.2.2.size
        have hs0 := HW0.out
        have T2 := Lib.hid t2
        have Z2 := Lib.hid z2
        clear t2 z2
        go_wp2_with fail
        refine (rdisk_append w2 F2 r xs k Z2.out A b.length c b w0.heap.size HA.out.nil_ R2.out (by omega) rfl (by omega)).mono ?_
        rintro e w3 ⟨rfl, t3⟩
        have T3 := Lib.hid t3
        clear t3
        go_wp2_with fail
        go_meet
        exact HFIN.out w2 w3 _ _ T2.out T3.out HS'.out
      · rw [if_neg (by omega), if_pos (by omega)] at hs'
        have HS' := Lib.hid hs'
        clear hs'
        have e0 : (wh % 8 == 0) = false := by rw [hm]; rfl
        have e1 : (wh % 8 == 1) = false := by rw [hm]; rfl
        have e2 : (wh % 8 == 2) = false := by rw [hm]; rfl
        have e3 : (wh % 8 == 3) = false := by rw [hm]; rfl
        have e4 : (wh % 8 == 4) = true := by rw [hm]; rfl
        clear hm hw8 hw0
        go_wp2_with fail
        refine (disk_sync W F1 d xs k HD.out).mono ?_
        rintro e w2 ⟨rfl, t2⟩
        obtain ⟨y2, z2⟩ := HY.out w2 t2.choose_spec.2.2
        have T2 := Lib.hid t2
        have Z2 := Lib.hid z2
        clear t2 z2
        go_wp2_with fail
        refine (rdisk_sync w2 F2 r xs k Z2.out).mono ?_
        rintro e w3 ⟨rfl, t3⟩
        have T3 := Lib.hid t3
        clear t3
        go_wp2_with fail
        go_meet
        exact HFIN.out w2 w3 _ _ T2.out T3.out HS'.out
      · rw [if_neg (by omega), if_neg (by omega), if_pos (by omega)] at hs'
        have e0 : (wh % 8 == 0) = false := by rw [hm]; rfl
        have e1 : (wh % 8 == 1) = false := by rw [hm]; rfl
        have e2 : (wh % 8 == 2) = false := by rw [hm]; rfl
        have e3 : (wh % 8 == 3) = false := by rw [hm]; rfl
        have e4 : (wh % 8 == 4) = false := by rw [hm]; rfl
        have e5 : (wh % 8 == 5) = true := by rw [hm]; rfl
        clear hm hw8 hw0
        by_cases hin : 0 ≤ N ∧ N ≤ xs.length
        · rw [if_pos hin] at hs'
          obtain ⟨m, rfl⟩ : ∃ m : Nat, N = (m : Int) := ⟨N.toNat, by omega⟩
          rw [Int.toNat_natCast] at hs'
          have hml : m ≤ xs.length := by omega
          clear hin
          have HS' := Lib.hid hs'
          clear hs'
          go_wp2_with fail
          refine (disk_truncate_yes W F1 d xs k HD.out m hml).mono ?_
          rintro e w2 ⟨rfl, t2⟩
          obtain ⟨y2, z2⟩ := HY.out w2 t2.choose_spec.2.2
          have T2 := Lib.hid t2
          have Z2 := Lib.hid z2
          clear t2 z2
          go_wp2_with fail
          refine (rdisk_truncate_yes w2 F2 r xs k Z2.out m hml).mono ?_
          rintro e w3 ⟨rfl, t3⟩
          have T3 := Lib.hid t3
          clear t3
          go_wp2_with fail
          go_meet
          exact HFIN.out w2 w3 _ _ T2.out T3.out HS'.out
        · rw [if_neg hin] at hs'
          have hno : N < 0 ∨ (xs.length : Int) < N := by omega
          clear hin
          have HS' := Lib.hid hs'
          have HNO := Lib.hid hno
          clear hs' hno
          go_wp2_with fail
          refine (disk_truncate_no W F1 d xs k HD.out N HNO.out).mono ?_
          rintro e w2 ⟨rfl, rfl⟩
          go_wp2_with fail
          refine (rdisk_truncate_no W F2 r xs k HR.out N HNO.out).mono ?_
          rintro e w3 ⟨rfl, rfl⟩
          go_wp2_with fail
          go_meet
          exact HSAME.out HS'.out
      iterate 2
        · rw [if_neg (by omega), if_neg (by omega), if_neg (by omega)] at hs'
          have HS' := Lib.hid hs'
          clear hs'
          have e0 : (wh % 8 == 0) = false := by rw [hm]; rfl
          have e1 : (wh % 8 == 1) = false := by rw [hm]; rfl
          have e2 : (wh % 8 == 2) = false := by rw [hm]; rfl
          have e3 : (wh % 8 == 3) = false := by rw [hm]; rfl
          have e4 : (wh % 8 == 4) = false := by rw [hm]; rfl
          have e5 : (wh % 8 == 5) = false := by rw [hm]; rfl
          clear hm hw8 hw0
          go_wp2_with fail
          refine (disk_crash W F1 d xs k HD.out N).mono ?_
          rintro e w2 ⟨rfl, t2⟩
          obtain ⟨y2, z2⟩ := HY.out w2 t2.choose_spec.2.2
          have T2 := Lib.hid t2
          have Z2 := Lib.hid z2
          clear t2 z2
          go_wp2_with fail
          refine (rdisk_crash w2 F2 r xs k Z2.out N).mono ?_
          rintro e w3 ⟨rfl, t3⟩
          have T3 := Lib.hid t3
          clear t3
          go_wp2_with fail
          go_meet
          exact HFIN.out w2 w3 _ _ T2.out T3.out HS'.out
    case rest =>
      obtain ⟨Wz, rfl⟩ : ∃ W : World, W = wc := ⟨_, rfl⟩
      clear HD HR HY HFIN HSAME HRD x0 x1 x2 hxl hs' H1 H2 H3 H4 H5 H6 hrl
      obtain ⟨ys, q⟩ := s
      obtain ⟨F', ⟨G1, G2, g1, g2, g3, g4, g5, g6⟩, g7, g8⟩ := hcut
      simp only at g1 g2
      obtain ⟨A2, c2, b1, b2, b3, b4', b5', r0, r1, fr0, fr1, bn, bcap⟩ := g2.open_
      have hka : ∀ V : World, Fr No Wz V → V.cell? ⟨r, 0, none⟩ = some (.slice A2 ys.length c2) ∧ V.cell? ⟨r, 1, none⟩ = some (.int .i64 (q : Int)) ∧ Fr No Wz V := fun V hV => ⟨(b1.fr hV (fun h => h)).cell 0, (b1.fr hV (fun h => h)).cell 1, hV⟩
      have hbt : ∀ V : World, Fr No Wz V → _ := fun V hV => disk_bytes V G1 d ys q (g1.frNo hV)
      have hdu : ∀ V : World, Fr No Wz V → _ := fun V hV => disk_durable V G1 d ys q (g1.frNo hV)
      have hback : ∀ V : World, Fr No Wz V → TwoTo w F d r (ys, q) V := fun V hV => ⟨F', ⟨G1, G2, g1.frNo hV, g2.frNo hV, g3, g4, g5, fun i hi => Nat.lt_of_lt_of_le (g6 i hi) hV.size⟩, g7, g8.trans hV fun i hi => hi.elim⟩
      have hself : (ys == ys) = true := by simp
      have hqq : ((q : Int) == (q : Int)) = true := by simp
      have HKA := Lib.hid hka
      have HBT := Lib.hid hbt
      have HDU := Lib.hid hdu
      have HBACK := Lib.hid hback
      have B3 := Lib.hid b3
      have BN := Lib.hid bn
      have G1 := Lib.hid g1
      have G2 := Lib.hid g2
      clear hka hbt hdu hback b3 bn g1 g2
      clear g3 g4 g5 g6 g7 g8 b1 b2 fr0 fr1
      go_wp2_with fail
      go_region_held3 (fun w' => w'.cell? ⟨r, 0, none⟩ = some (.slice A2 ys.length c2) ∧ w'.cell? ⟨r, 1, none⟩ = some (.int .i64 (q : Int)) ∧ Fr No Wz w') (exact HKA.out _ (by repeat (first | assumption | exact Fr.refl _ _ | refine Fr.alloc ?_ _ | refine Fr.drew ?_ | refine Fr.drewN ?_ _))) (first
        | (go_at_call 13; refine (HBT.out _ (by repeat (first | assumption | exact Fr.refl _ _ | refine Fr.alloc ?_ _ | refine Fr.drew ?_ | refine Fr.drewN ?_ _))).mono ?_; rintro e v1 ⟨A1, c1', rfl, o1, f1'⟩; have O1 := Lib.hid o1; have F1 : Fr No Wz v1 := Fr.transNo (by repeat (first | assumption | exact Fr.refl _ _ | refine Fr.alloc ?_ _ | refine Fr.drew ?_ | refine Fr.drewN ?_ _)) f1'; clear o1 f1')
        | (go_at_call 15; refine (same_bytes _ _ _ _ _ _ ys ys _ _ _ O1.out.len.2 rfl O1.out.rd BN.out rfl (B3.out.frNo (by repeat (first | assumption | exact Fr.refl _ _ | refine Fr.alloc ?_ _ | refine Fr.drew ?_ | refine Fr.drewN ?_ _))).rd).mono ?_; rintro e v2 ⟨rfl, rfl⟩)
        | (go_at_call 14; refine (HDU.out _ (by repeat (first | assumption | exact Fr.refl _ _ | refine Fr.alloc ?_ _ | refine Fr.drew ?_ | refine Fr.drewN ?_ _))).mono ?_; rintro e v2 ⟨rfl, rfl⟩))
      all_goals
        go_wp2_with fail
        go_ret
        refine ⟨ret_bool rfl, ?_⟩
        rw [HS.out]
        exact HBACK.out _ (by repeat (first | assumption | exact Fr.refl _ _ | refine Fr.alloc ?_ _ | refine Fr.drew ?_ | refine Fr.drewN ?_ _))
end Go.Proofs.Ytjhghcdofhpcgaa
