/-
  The turns of a state's own numbers: expand.
-/
import Derived.Test.YtanhbebikcoliaaDoorStP
namespace Go.Proofs.YtanhbebikcoliaaDoor
open Go.ChangeShapes Go.WideShapes Go.ChangeAt Go.RowKit
set_option linter.unusedVariables false
set_option maxRecDepth 100000 in
set_option maxHeartbeats 8000000 in
theorem expand_any {w : World} {G : Nat → Prop} {c : Cf} {s : St} (h : CfOk w c) (hs : StOk w G c s) (hG : ∀ i, G i → i < w.heap.size) :
    Calls Tryd.prog 77 #[.agg c.arr, .agg s.arr] w (StTo w G G c) := by
  have hcf := fun W (hf : Fr No w W) => h.frNo hf
  have hnv := h.ver
  have hbv := h.bvl
  have hst := fun W (hf : Fr No w W) => hs.frNo hf
  have hP := fun v W => proven_q s v W
  have hten := fun i (hi : i < c.nt) => hs.ten hi
  have hcel := fun i (hi : i < c.nc) => hs.cell hi
  have hnv2 := h.nv2
  have hmx : s.mt ≤ 9223372036854775807 := by have := hs.dt; unfold maxLen at this; omega
  have hmy : s.ms ≤ 9223372036854775807 := by have := hs.ds; unfold maxLen at this; omega
  have hms := hs.ms
  have hmt := hs.mt
  obtain ⟨rg, nz, nc, nt, nv, le, bk, bz, bc, bv, cz, cc, ct, cv, At, Ar, nr, cr, Ao, no_, co, bl⟩ := c
  obtain ⟨tk, cn, Bt, mt, dt, Bs, ms, ds, pr, ev, lo, hi⟩ := s
  simp only at *
  subst hms hmt
  clear hs h
  obtain ⟨w1, hw1⟩ : ∃ w1, w1 = w.alloc (.cells #[.int .i64 (rg : Int), .slice (some ⟨bz, 0, none⟩) nz cz, .slice (some ⟨bc, 0, none⟩) ms cc, .slice At mt ct, .slice (some ⟨bv, 0, none⟩) nv cv, .slice Ar nr cr, .slice Ao no_ co, .int .i64 bl, .int .i64 (le : Int), .int .i64 (bk : Int)] TCf) := ⟨_, rfl⟩
  obtain ⟨g1, hg1⟩ : ∃ g1, g1 = w.heap.size := ⟨_, rfl⟩
  have hb1 : Blk w1 g1 TCf #[.int .i64 (rg : Int), .slice (some ⟨bz, 0, none⟩) nz cz, .slice (some ⟨bc, 0, none⟩) ms cc, .slice At mt ct, .slice (some ⟨bv, 0, none⟩) nv cv, .slice Ar nr cr, .slice Ao no_ co, .int .i64 bl, .int .i64 (le : Int), .int .i64 (bk : Int)] := by rw [hw1, hg1]; exact Blk.new _ _ _
  have f1 : Fr No w w1 := by rw [hw1]; exact fr_alloc _ _
  have hs1 : w1.heap.size = g1 + 1 := by rw [hw1, hg1]; simp
  obtain ⟨w2, hw2⟩ : ∃ w2, w2 = w1.alloc (.cells #[.int .i64 tk, .int .i64 cn, .slice Bt mt dt, .slice Bs ms ds, .int .i64 pr, .int .i64 ev, .int .i64 lo, .int .i64 hi] TSt) := ⟨_, rfl⟩
  obtain ⟨g2, hg2⟩ : ∃ g2, g2 = w1.heap.size := ⟨_, rfl⟩
  have hb2 : Blk w2 g2 TSt #[.int .i64 tk, .int .i64 cn, .slice Bt mt dt, .slice Bs ms ds, .int .i64 pr, .int .i64 ev, .int .i64 lo, .int .i64 hi] := by rw [hw2, hg2]; exact Blk.new _ _ _
  have f2 : Fr No w1 w2 := by rw [hw2]; exact fr_alloc _ _
  have hs2 : w2.heap.size = g2 + 1 := by rw [hw2, hg2]; simp
  obtain ⟨w3, hw3⟩ : ∃ w3, w3 = w2.alloc (.cells #[.int .i64 0, .int .i64 0, .slice none 0 0, .slice none 0 0, .int .i64 0, .int .i64 0, .int .i64 0, .int .i64 0] TSt) := ⟨_, rfl⟩
  obtain ⟨g3, hg3⟩ : ∃ g3, g3 = w2.heap.size := ⟨_, rfl⟩
  have hb3 : Blk w3 g3 TSt #[.int .i64 0, .int .i64 0, .slice none 0 0, .slice none 0 0, .int .i64 0, .int .i64 0, .int .i64 0, .int .i64 0] := by rw [hw3, hg3]; exact Blk.new _ _ _
  have f3 : Fr No w2 w3 := by rw [hw3]; exact fr_alloc _ _
  have hs3 : w3.heap.size = g3 + 1 := by rw [hw3, hg3]; simp
  have hB1 : Blk w3 g1 TCf #[.int .i64 (rg : Int), .slice (some ⟨bz, 0, none⟩) nz cz, .slice (some ⟨bc, 0, none⟩) ms cc, .slice At mt ct, .slice (some ⟨bv, 0, none⟩) nv cv, .slice Ar nr cr, .slice Ao no_ co, .int .i64 bl, .int .i64 (le : Int), .int .i64 (bk : Int)] := hb1.fr (((Fr.refl No _).transNo f2).transNo f3) (fun h => h)
  have hB2 : Blk w3 g2 TSt #[.int .i64 tk, .int .i64 cn, .slice Bt mt dt, .slice Bs ms ds, .int .i64 pr, .int .i64 ev, .int .i64 lo, .int .i64 hi] := hb2.fr ((Fr.refl No _).transNo f3) (fun h => h)
  have hB3 : Blk w3 g3 TSt #[.int .i64 0, .int .i64 0, .slice none 0 0, .slice none 0 0, .int .i64 0, .int .i64 0, .int .i64 0, .int .i64 0] := hb3.fr (Fr.refl No _) (fun h => h)
  have fW : Fr No w w3 := (((Fr.refl No w).transNo f1).transNo f2).transNo f3
  have he2 : g2 = g1 + 1 := by rw [hg2, hs1]
  have he3 : g3 = g1 + 2 := by rw [hg3, hs2]; rw [he2]
  have hka : ∀ V, Fr No w3 V → (V.cell? ⟨g1, 0, none⟩ = some (.int .i64 (rg : Int)) ∧ V.cell? ⟨g1, 1, none⟩ = some (.slice (some ⟨bz, 0, none⟩) nz cz) ∧ V.cell? ⟨g1, 2, none⟩ = some (.slice (some ⟨bc, 0, none⟩) ms cc) ∧ V.cell? ⟨g1, 3, none⟩ = some (.slice At mt ct) ∧ V.cell? ⟨g1, 4, none⟩ = some (.slice (some ⟨bv, 0, none⟩) nv cv) ∧ V.cell? ⟨g1, 5, none⟩ = some (.slice Ar nr cr) ∧ V.cell? ⟨g1, 6, none⟩ = some (.slice Ao no_ co) ∧ V.cell? ⟨g1, 7, none⟩ = some (.int .i64 bl) ∧ V.cell? ⟨g1, 8, none⟩ = some (.int .i64 (le : Int)) ∧ V.cell? ⟨g1, 9, none⟩ = some (.int .i64 (bk : Int))) ∧ (V.cell? ⟨g2, 0, none⟩ = some (.int .i64 tk) ∧ V.cell? ⟨g2, 1, none⟩ = some (.int .i64 cn) ∧ V.cell? ⟨g2, 2, none⟩ = some (.slice Bt mt dt) ∧ V.cell? ⟨g2, 3, none⟩ = some (.slice Bs ms ds) ∧ V.cell? ⟨g2, 4, none⟩ = some (.int .i64 pr) ∧ V.cell? ⟨g2, 5, none⟩ = some (.int .i64 ev) ∧ V.cell? ⟨g2, 6, none⟩ = some (.int .i64 lo) ∧ V.cell? ⟨g2, 7, none⟩ = some (.int .i64 hi)) ∧ (V.cell? ⟨g3, 0, none⟩ = some (.int .i64 0) ∧ V.cell? ⟨g3, 1, none⟩ = some (.int .i64 0) ∧ V.cell? ⟨g3, 2, none⟩ = some (.slice none 0 0) ∧ V.cell? ⟨g3, 3, none⟩ = some (.slice none 0 0) ∧ V.cell? ⟨g3, 4, none⟩ = some (.int .i64 0) ∧ V.cell? ⟨g3, 5, none⟩ = some (.int .i64 0) ∧ V.cell? ⟨g3, 6, none⟩ = some (.int .i64 0) ∧ V.cell? ⟨g3, 7, none⟩ = some (.int .i64 0)) := fun V hf => ⟨(let k := hB1.fr hf (fun h => h); ⟨k.cell 0, k.cell 1, k.cell 2, k.cell 3, k.cell 4, k.cell 5, k.cell 6, k.cell 7, k.cell 8, k.cell 9⟩), (let k := hB2.fr hf (fun h => h); ⟨k.cell 0, k.cell 1, k.cell 2, k.cell 3, k.cell 4, k.cell 5, k.cell 6, k.cell 7⟩), (let k := hB3.fr hf (fun h => h); ⟨k.cell 0, k.cell 1, k.cell 2, k.cell 3, k.cell 4, k.cell 5, k.cell 6, k.cell 7⟩)⟩
  have hW : w3 = ((w.alloc (.cells #[.int .i64 (rg : Int), .slice (some ⟨bz, 0, none⟩) nz cz, .slice (some ⟨bc, 0, none⟩) ms cc, .slice At mt ct, .slice (some ⟨bv, 0, none⟩) nv cv, .slice Ar nr cr, .slice Ao no_ co, .int .i64 bl, .int .i64 (le : Int), .int .i64 (bk : Int)] TCf)).alloc (.cells #[.int .i64 tk, .int .i64 cn, .slice Bt mt dt, .slice Bs ms ds, .int .i64 pr, .int .i64 ev, .int .i64 lo, .int .i64 hi] TSt)).alloc (.cells #[.int .i64 0, .int .i64 0, .slice none 0 0, .slice none 0 0, .int .i64 0, .int .i64 0, .int .i64 0, .int .i64 0] TSt) := by rw [hw3, hw2, hw1]
  have hl1 : g1 < w3.heap.size := hB1.lt
  have hl2 : g2 < w3.heap.size := hB2.lt
  have hl3 : g3 < w3.heap.size := hB3.lt
  clear hw1 hb1 hs1 hw2 hb2 hs2 hw3 hb3 hs3
  have HG1 := Lib.hid hg1
  have HG2 := Lib.hid hg2
  have HG3 := Lib.hid hg3
  have HE2 := Lib.hid he2
  have HE3 := Lib.hid he3
  clear hg1 hg2 hg3 he2 he3
  have hz := fun V (hV : Fr No w3 V) => hB3.fr hV (fun h => h)
  have hsb := fun V (hV : Fr No w3 V) => hB2.fr hV (fun h => h)
  have hgz : w.heap.size ≤ g3 := by rw [HE3.out, HG1.out]; omega
  have HST := Lib.hid hst
  have HP := Lib.hid hP
  have HTEN := Lib.hid hten
  have HCEL := Lib.hid hcel
  have HCF := Lib.hid hcf
  have HNV := Lib.hid hnv
  have HKA := Lib.hid hka
  have HW := Lib.hid hW
  have HZ := Lib.hid hz
  have HSB := Lib.hid hsb
  clear hst hP hten hcel hcf hnv hka hW hz hsb
  go_enter Tryd.func77, Tryd.ntmps77
  go_upto_region 1 with fail
  rw [← HW.out]
  try rw [← show g3 = w.heap.size + 2 from by rw [HE3.out, HG1.out]]
  try rw [← show g2 = w.heap.size + 1 from by rw [HE2.out, HG1.out]]
  try rw [← HG1.out]
  have FQ := Lib.hid (Fr.refl No w3)
  have hvr : ∀ V, Fr No w V → ∀ i, i < nv → ∃ a b : Int, V.cell? ⟨bv, i * 2, none⟩ = some (.int .i64 a) ∧ V.cell? ⟨bv, i * 2 + 1, none⟩ = some (.int .i64 b) := fun V hV i hi => by
    obtain ⟨a, b, h1, h2⟩ := HNV.out i hi
    exact ⟨a, b, (hV.cell (p := ⟨bv, i * 2, none⟩) hbv (fun h => h)).trans h1, (hV.cell (p := ⟨bv, i * 2 + 1, none⟩) hbv (fun h => h)).trans h2⟩
  have HVR := Lib.hid hvr
  clear hvr
  obtain ⟨⟨e0, e1, e2, e3, e4, e5, e6, e7, e8, e9⟩, ⟨s0, s1, s2, s3, s4, s5, s6, s7⟩, ⟨z0, z1, z2, z3, z4, z5, z6, z7⟩⟩ := HKA.out w3 FQ.out
  go_upto_region 1 with fail
  go_cut [8] from 9 to 13 (fun x wx => (∃ B : Bool, x = .bool B ∧ (True)) ∧ Fr No w3 wx)
  case first =>
    all_goals (try go_wp2_with fail)
    all_goals go_meet
    all_goals exact ⟨⟨_, rfl, trivial⟩, (by repeat (first | assumption | exact Fr.refl _ _ | refine Fr.alloc ?_ _ | refine Fr.drew ?_ | refine Fr.drewN ?_ _))⟩
  obtain ⟨⟨B, rfl, hB⟩, hcf⟩ := hcut
  replace FQ := Lib.hid (FQ.out.transNo hcf)
  clear hcf
  clear e0 e1 e2 e3 e4 e5 e6 e7 e8 e9 s0 s1 s2 s3 s4 s5 s6 s7 z0 z1 z2 z3 z4 z5 z6 z7
  obtain ⟨⟨e0, e1, e2, e3, e4, e5, e6, e7, e8, e9⟩, ⟨s0, s1, s2, s3, s4, s5, s6, s7⟩, ⟨z0, z1, z2, z3, z4, z5, z6, z7⟩⟩ := HKA.out wc FQ.out
  rcases B with _ | _
  rotate_left
  · go_wp2_with fail
    refine (no_any _ _).mono ?_
    rintro e w9 ⟨rfl, f9⟩
    have hz9 := HZ.out w9 (FQ.out.transNo f9)
    have f8 := fW.transNo (FQ.out.transNo f9)
    obtain ⟨z0, z1, z2, z3, z4, z5, z6, z7⟩ := st_cells (s := stZero) hz9
    simp only at z0 z1 z2 z3 z4 z5 z6 z7
    have q0 := hz9.frozen 0
    have q1 := hz9.frozen 1
    have q2 := hz9.frozen 2
    have q3 := hz9.frozen 3
    have q4 := hz9.frozen 4
    have q5 := hz9.frozen 5
    have q6 := hz9.frozen 6
    have q7 := hz9.frozen 7
    have HZ9 := Lib.hid hz9
    have F8 := Lib.hid f8
    clear hz9 f8
    go_wp2_with fail
    exact bodyPost_ret (v := .tuple #[.agg stZero.arr, .int .i64 4]) (expand_results stZero 4 g3 _ _ (st_fill (z := stZero) stZero HZ9.out) rfl rfl) rfl (StTo.no (by decide) ((st_fill_fr stZero F8.out hgz).mono fun _ h => h.elim) rfl)
  go_upto_region 3 with fail
  go_cut [17] from 18 to 20 (fun x wx => (∃ B : Bool, x = .bool B ∧ (True)) ∧ Fr No wc wx)
  case first =>
    all_goals (try go_wp2_with fail)
    all_goals go_meet
    all_goals exact ⟨⟨_, rfl, trivial⟩, (by repeat (first | assumption | exact Fr.refl _ _ | refine Fr.alloc ?_ _ | refine Fr.drew ?_ | refine Fr.drewN ?_ _))⟩
  obtain ⟨⟨B, rfl, hB⟩, hcf⟩ := hcut
  replace FQ := Lib.hid (FQ.out.transNo hcf)
  clear hcf
  clear e0 e1 e2 e3 e4 e5 e6 e7 e8 e9 s0 s1 s2 s3 s4 s5 s6 s7 z0 z1 z2 z3 z4 z5 z6 z7
  obtain ⟨⟨e0, e1, e2, e3, e4, e5, e6, e7, e8, e9⟩, ⟨s0, s1, s2, s3, s4, s5, s6, s7⟩, ⟨z0, z1, z2, z3, z4, z5, z6, z7⟩⟩ := HKA.out wc FQ.out
  rcases B with _ | _
  rotate_left
  · go_wp2_with fail
    refine (no_any _ _).mono ?_
    rintro e w9 ⟨rfl, f9⟩
    have hz9 := HZ.out w9 (FQ.out.transNo f9)
    have f8 := fW.transNo (FQ.out.transNo f9)
    obtain ⟨z0, z1, z2, z3, z4, z5, z6, z7⟩ := st_cells (s := stZero) hz9
    simp only at z0 z1 z2 z3 z4 z5 z6 z7
    have q0 := hz9.frozen 0
    have q1 := hz9.frozen 1
    have q2 := hz9.frozen 2
    have q3 := hz9.frozen 3
    have q4 := hz9.frozen 4
    have q5 := hz9.frozen 5
    have q6 := hz9.frozen 6
    have q7 := hz9.frozen 7
    have HZ9 := Lib.hid hz9
    have F8 := Lib.hid f8
    clear hz9 f8
    go_wp2_with fail
    exact bodyPost_ret (v := .tuple #[.agg stZero.arr, .int .i64 2]) (expand_results stZero 2 g3 _ _ (st_fill (z := stZero) stZero HZ9.out) rfl rfl) rfl (StTo.no (by decide) ((st_fill_fr stZero F8.out hgz).mono fun _ h => h.elim) rfl)
  go_wp2_with fail
  clear e0 e1 e2 e3 e4 e5 e6 e7 e8 e9 s0 s1 s2 s3 s4 s5 s6 s7 z0 z1 z2 z3 z4 z5 z6 z7
  go_loopw [6] (fun i wr => ∃ k : Nat, k ≤ ms ∧ i = .int .i64 k ∧ Fr No w3 wr) (fun i _ => ms - (intOf i).toNat)
  case atStart => exact ⟨0, Nat.zero_le _, rfl, FQ.out⟩
  obtain ⟨k, hk, rfl, hf⟩ := hrel
  replace FQ := Lib.hid hf
  clear hf
  obtain ⟨⟨e0, e1, e2, e3, e4, e5, e6, e7, e8, e9⟩, ⟨s0, s1, s2, s3, s4, s5, s6, s7⟩, ⟨z0, z1, z2, z3, z4, z5, z6, z7⟩⟩ := HKA.out wr FQ.out
  by_cases hlt : k < ms
  · have b1 : decide (k < ms) = true := decide_eq_true hlt
    have b2 : decide ((k : Int) < (ms : Int)) = true := decide_eq_true (by omega)
    have hix : (0 : Int) ≤ (k : Int) ∧ (k : Int) < (ms : Int) := by omega
    obtain ⟨b, m, r, a, si, rfl, hbG, hbl, hr, ha, hcl⟩ := HCEL.out k hlt
    obtain ⟨d0, d1, d2, d3⟩ := hcl _ (fW.transNo FQ.out)
    have hrx : (0 : Int) ≤ (r : Int) ∧ (r : Int) < (nv : Int) := by omega
    have hax : (0 : Int) ≤ (a : Int) ∧ (a : Int) < (nv : Int) := by omega
    obtain ⟨va, vb, v0, v1⟩ := HVR.out _ (fW.transNo FQ.out) r hr
    obtain ⟨ua, ub, u0, u1⟩ := HVR.out _ (fW.transNo FQ.out) a ha
    have hbvl : bv < wr.heap.size := Nat.lt_of_lt_of_le hbv (fW.transNo FQ.out).size
    clear hcl
    have hk1 : g1 < wr.heap.size := Nat.lt_of_lt_of_le hl1 FQ.out.size
    have hk2 : g2 < wr.heap.size := Nat.lt_of_lt_of_le hl2 FQ.out.size
    have hk3 : g3 < wr.heap.size := Nat.lt_of_lt_of_le hl3 FQ.out.size
    go_upto_region 9 with fail
    go_cut [57] from 36 to 57 (fun x wx => (∃ B : Bool, x = .bool B) ∧ Fr No wr wx)
    case first =>
      by_cases hq : vb ≤ hi
      · have b4 : decide (vb ≤ hi) = true := decide_eq_true hq
        go_region
        all_goals go_wp2_with fail
        all_goals go_meet
        all_goals exact ⟨⟨_, rfl⟩, (by repeat (first | assumption | exact Fr.refl _ _ | refine Fr.alloc ?_ _ | refine Fr.drew ?_ | refine Fr.drewN ?_ _))⟩
      · have b4 : decide (vb ≤ hi) = false := decide_eq_false hq
        go_region
        all_goals go_wp2_with fail
        all_goals go_meet
        all_goals exact ⟨⟨_, rfl⟩, (by repeat (first | assumption | exact Fr.refl _ _ | refine Fr.alloc ?_ _ | refine Fr.drew ?_ | refine Fr.drewN ?_ _))⟩
    obtain ⟨⟨B, rfl⟩, hcf⟩ := hcut
    replace FQ := Lib.hid (FQ.out.transNo hcf)
    clear hcf d0 d1 d2 d3 v0 v1 u0 u1
    clear e0 e1 e2 e3 e4 e5 e6 e7 e8 e9 s0 s1 s2 s3 s4 s5 s6 s7 z0 z1 z2 z3 z4 z5 z6 z7
    obtain ⟨⟨e0, e1, e2, e3, e4, e5, e6, e7, e8, e9⟩, ⟨s0, s1, s2, s3, s4, s5, s6, s7⟩, ⟨z0, z1, z2, z3, z4, z5, z6, z7⟩⟩ := HKA.out wc FQ.out
    rcases B with _ | _
    rotate_left
    · go_wp2_with fail
      refine (no_any _ _).mono ?_
      rintro e w9 ⟨rfl, f9⟩
      have hz9 := HZ.out w9 (FQ.out.transNo f9)
      have f8 := fW.transNo (FQ.out.transNo f9)
      obtain ⟨z0, z1, z2, z3, z4, z5, z6, z7⟩ := st_cells (s := stZero) hz9
      simp only at z0 z1 z2 z3 z4 z5 z6 z7
      have q0 := hz9.frozen 0
      have q1 := hz9.frozen 1
      have q2 := hz9.frozen 2
      have q3 := hz9.frozen 3
      have q4 := hz9.frozen 4
      have q5 := hz9.frozen 5
      have q6 := hz9.frozen 6
      have q7 := hz9.frozen 7
      have HZ9 := Lib.hid hz9
      have F8 := Lib.hid f8
      clear hz9 f8
      go_wp2_with fail
      exact bodyPost_ret (v := .tuple #[.agg stZero.arr, .int .i64 13]) (expand_results stZero 13 g3 _ _ (st_fill (z := stZero) stZero HZ9.out) rfl rfl) rfl (StTo.no (by decide) ((st_fill_fr stZero F8.out hgz).mono fun _ h => h.elim) rfl)
    go_wp2_with fail
    go_roundw
    case rel => exact ⟨k + 1, by omega, by go_num, FQ.out⟩
    case measure => simp [intOf]; omega
  · obtain rfl : k = ms := by omega
    have b1 : decide (k < k) = false := by simp
    have b2 : decide ((k : Int) < (k : Int)) = false := by simp
    have hse : g3 ≠ g2 := by have := HG1.out; have := HE2.out; have := HE3.out; omega
    have hsg : w.heap.size ≤ g2 := by have := HG1.out; have := HE2.out; omega
    have hp9 : ∀ xq : Int, Blk (wr.setCell ⟨g2, 7, none⟩ (.int .i64 xq)) g2 TSt (St.arr ⟨tk, cn, Bt, mt, dt, Bs, k, ds, pr, ev, lo, xq⟩) ∧ Blk (wr.setCell ⟨g2, 7, none⟩ (.int .i64 xq)) g3 TSt stZero.arr ∧ StOk (wr.setCell ⟨g2, 7, none⟩ (.int .i64 xq)) G ⟨rg, nz, k, mt, nv, le, bk, bz, bc, bv, cz, cc, ct, cv, At, Ar, nr, cr, Ao, no_, co, bl⟩ ⟨tk, cn, Bt, mt, dt, Bs, k, ds, pr, ev, lo, xq⟩ ∧ Fr G w (wr.setCell ⟨g2, 7, none⟩ (.int .i64 xq)) := fun xq => ⟨Blk.cv ((HSB.out wr FQ.out).set_ 7 _) rfl, (HZ.out wr FQ.out).fr (fr_set _ ⟨g2, 7, none⟩ _) hse, (StOk.renum (HST.out _ (fW.transNo FQ.out))).fr (fr_set _ ⟨g2, 7, none⟩ _) (fun i hi e => by have := hG i hi; have e : i = g2 := e; omega), ((fW.transNo FQ.out).mono (fun _ h => h.elim)).setCell (p := ⟨g2, 7, none⟩) (.inr hsg) _⟩
    have HP9 := Lib.hid hp9
    clear hp9
    go_upto_region 11 with fail
    go_cut [] from 61 to 64 (fun wx => ∃ xq : Int, Blk wx g2 TSt (St.arr ⟨tk, cn, Bt, mt, dt, Bs, k, ds, pr, ev, lo, xq⟩) ∧ Blk wx g3 TSt stZero.arr ∧ StOk wx G ⟨rg, nz, k, mt, nv, le, bk, bz, bc, bv, cz, cc, ct, cv, At, Ar, nr, cr, Ao, no_, co, bl⟩ ⟨tk, cn, Bt, mt, dt, Bs, k, ds, pr, ev, lo, xq⟩ ∧ Fr G w wx)
    case first =>
      have hfb := (HSB.out wr FQ.out).frozen 7
      go_wp2_with fail
      go_meet
      exact ⟨_, HP9.out _⟩
    obtain ⟨xq, hsb9, hz9, hok9, f9⟩ := hcut
    clear e0 e1 e2 e3 e4 e5 e6 e7 e8 e9 s0 s1 s2 s3 s4 s5 s6 s7 z0 z1 z2 z3 z4 z5 z6 z7
    obtain ⟨s0, s1, s2, s3, s4, s5, s6, s7⟩ := st_cells hsb9
    simp only at s0 s1 s2 s3 s4 s5 s6 s7
    obtain ⟨z0, z1, z2, z3, z4, z5, z6, z7⟩ := st_cells (s := stZero) hz9
    simp only at z0 z1 z2 z3 z4 z5 z6 z7
    have q0 := hz9.frozen 0
    have q1 := hz9.frozen 1
    have q2 := hz9.frozen 2
    have q3 := hz9.frozen 3
    have q4 := hz9.frozen 4
    have q5 := hz9.frozen 5
    have q6 := hz9.frozen 6
    have q7 := hz9.frozen 7
    clear hsb9
    have HOK9 := Lib.hid hok9
    have F9 := Lib.hid f9
    have HZ9 := Lib.hid hz9
    clear hok9 f9 hz9
    have T9 := Lib.hid (StTo.fill (s := ⟨tk, cn, Bt, mt, dt, Bs, k, ds, pr, ev, lo, xq⟩) (q := g3) (e := .returned (.tuple #[.agg (St.arr ⟨tk, cn, Bt, mt, dt, Bs, k, ds, pr, ev, lo, xq⟩), .int .i64 0])) HOK9.out F9.out hgz hG rfl)
    have T8 := Lib.hid (st_fill (q := g3) (z := stZero) ⟨tk, cn, Bt, mt, dt, Bs, k, ds, pr, ev, lo, xq⟩ HZ9.out)
    clear HOK9 F9 HZ9
    go_wp2_with fail
    exact bodyPost_ret (v := .tuple #[.agg (St.arr ⟨tk, cn, Bt, mt, dt, Bs, k, ds, pr, ev, lo, xq⟩), .int .i64 0]) (expand_results ⟨tk, cn, Bt, mt, dt, Bs, k, ds, pr, ev, lo, xq⟩ 0 g3 _ _ T8.out rfl rfl) rfl T9.out
end Go.Proofs.YtanhbebikcoliaaDoor
