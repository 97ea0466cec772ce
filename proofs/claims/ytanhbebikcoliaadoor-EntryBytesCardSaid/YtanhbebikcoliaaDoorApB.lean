/-
  Apply.
-/
import Derived.Test.YtanhbebikcoliaaDoorAp
namespace Go.Proofs.YtanhbebikcoliaaDoor
open Go.ChangeShapes Go.WideShapes Go.ChangeAt Go.RowKit
set_option linter.unusedVariables false
set_option maxRecDepth 100000 in
set_option maxHeartbeats 16000000 in
theorem apply_any {w : World} {G : Nat → Prop} {c : Cf} {s : St} (h : CfOk w c) (hs : StOk w G c s) (e : En) :
    Calls Tryd.prog 58 #[.agg c.arr, .agg s.arr, .agg (EnArr e)] w (ApTo w c) := by
  have hvl := fun W => (rvalid_any (w := W) (c := c) e h.nt2 h.nc2 (by have := h.rg2; omega) h.nv2 : Calls Tryd.prog 16 #[.agg c.arr, .agg (EnArr e)] W fun r w' => r = .returned (.bool (fitsB e c.nt c.nc c.rg c.nv)) ∧ Fr No W w')
  have hcp := fun W (hf : Fr No w W) => copied_any (hs.frNo hf) h.nc1 h.nt2 h.nc2
  have hcfw := fun W (hf : Fr (fun i => w.heap.size ≤ i) w W) => h.fr hf (fun i hi hh => by have hh : w.heap.size ≤ i := hh; omega)
  have hnv2 := h.nv2
  have hrg2 := h.rg2
  have hmx : s.mt ≤ 9223372036854775807 := by have := hs.dt; unfold maxLen at this; omega
  have hms := hs.ms
  have hmt := hs.mt
  obtain ⟨rg, nz, nc, nt, nv, le, bk, bz, bc, bv, cz, cc, ct, cv, At, Ar, nr, cr, Ao, no_, co, bl⟩ := c
  obtain ⟨tk, cn, Bt, mt, dt, Bs, ms, ds, pr, ev, lo, hi⟩ := s
  obtain ⟨kd, et, tn, cl, ot, ep, fm, un, n⟩ := e
  simp only at *
  subst hms hmt
  clear hs h
  obtain ⟨w1, hw1⟩ : ∃ w1, w1 = w.alloc (.cells #[.int .i64 (rg : Int), .slice (some ⟨bz, 0, none⟩) nz cz, .slice (some ⟨bc, 0, none⟩) ms cc, .slice At mt ct, .slice (some ⟨bv, 0, none⟩) nv cv, .slice Ar nr cr, .slice Ao no_ co, .int .i64 bl, .int .i64 (le : Int), .int .i64 (bk : Int)] TCf) := ⟨_, rfl⟩
  obtain ⟨g1, hg1⟩ : ∃ g1, g1 = w.heap.size := ⟨_, rfl⟩
  have hb1 : Blk w1 g1 TCf #[.int .i64 (rg : Int), .slice (some ⟨bz, 0, none⟩) nz cz, .slice (some ⟨bc, 0, none⟩) ms cc, .slice At mt ct, .slice (some ⟨bv, 0, none⟩) nv cv, .slice Ar nr cr, .slice Ao no_ co, .int .i64 bl, .int .i64 (le : Int), .int .i64 (bk : Int)] := by rw [hw1, hg1]; exact Blk.new _ _ _
  have f1 : Fr No w w1 := by rw [hw1]; exact fr_alloc _ _
  have hs1 : w1.heap.size = g1 + 1 := by rw [hw1, hg1]; simp
  obtain ⟨w2, hw2⟩ : ∃ w2, w2 = w1.alloc (.cells #[.int .i64 tk, .int .i64 cn, .slice Bt mt dt, .slice Bs ms ds, .int .i64 pr, .int .i64 ev, .int .i64 lo, .int .i64 hi] TSt) := ⟨_, rfl⟩
  obtain ⟨g2, hg2⟩ : ∃ g2, g2 = w1.heap.size := ⟨_, rfl⟩
  have hb2 : Blk w2 g2 TSt #[.int .i64 tk, .int .i64 cn, .slice Bt mt dt, .slice Bs ms ds, .int .i64 pr, .int .i64 ev, .int .i64 lo, .int .i64 hi] := by rw [hw2, hg2]; exact Blk.new _ _ _
  have f2 : Fr No w1 w2 := by rw [hw2]; exact fr_alloc _ _
  have hs2 : w2.heap.size = g2 + 1 := by rw [hw2, hg2]; simp
  obtain ⟨w3, hw3⟩ : ∃ w3, w3 = w2.alloc (.cells #[.int .i64 kd, .int .i64 et, .int .i64 tn, .int .i64 cl, .int .i64 ot, .int .i64 ep, .int .i64 fm, .int .i64 un, .int .i64 n] TEm) := ⟨_, rfl⟩
  obtain ⟨g3, hg3⟩ : ∃ g3, g3 = w2.heap.size := ⟨_, rfl⟩
  have hb3 : Blk w3 g3 TEm #[.int .i64 kd, .int .i64 et, .int .i64 tn, .int .i64 cl, .int .i64 ot, .int .i64 ep, .int .i64 fm, .int .i64 un, .int .i64 n] := by rw [hw3, hg3]; exact Blk.new _ _ _
  have f3 : Fr No w2 w3 := by rw [hw3]; exact fr_alloc _ _
  have hs3 : w3.heap.size = g3 + 1 := by rw [hw3, hg3]; simp
  obtain ⟨w4, hw4⟩ : ∃ w4, w4 = w3.alloc (.cells #[.int .i64 0, .int .i64 0, .slice none 0 0, .slice none 0 0, .int .i64 0, .int .i64 0, .int .i64 0, .int .i64 0] TSt) := ⟨_, rfl⟩
  obtain ⟨g4, hg4⟩ : ∃ g4, g4 = w3.heap.size := ⟨_, rfl⟩
  have hb4 : Blk w4 g4 TSt #[.int .i64 0, .int .i64 0, .slice none 0 0, .slice none 0 0, .int .i64 0, .int .i64 0, .int .i64 0, .int .i64 0] := by rw [hw4, hg4]; exact Blk.new _ _ _
  have f4 : Fr No w3 w4 := by rw [hw4]; exact fr_alloc _ _
  have hs4 : w4.heap.size = g4 + 1 := by rw [hw4, hg4]; simp
  have hB1 : Blk w4 g1 TCf #[.int .i64 (rg : Int), .slice (some ⟨bz, 0, none⟩) nz cz, .slice (some ⟨bc, 0, none⟩) ms cc, .slice At mt ct, .slice (some ⟨bv, 0, none⟩) nv cv, .slice Ar nr cr, .slice Ao no_ co, .int .i64 bl, .int .i64 (le : Int), .int .i64 (bk : Int)] := hb1.fr ((((Fr.refl No _).transNo f2).transNo f3).transNo f4) (fun h => h)
  have hB2 : Blk w4 g2 TSt #[.int .i64 tk, .int .i64 cn, .slice Bt mt dt, .slice Bs ms ds, .int .i64 pr, .int .i64 ev, .int .i64 lo, .int .i64 hi] := hb2.fr (((Fr.refl No _).transNo f3).transNo f4) (fun h => h)
  have hB3 : Blk w4 g3 TEm #[.int .i64 kd, .int .i64 et, .int .i64 tn, .int .i64 cl, .int .i64 ot, .int .i64 ep, .int .i64 fm, .int .i64 un, .int .i64 n] := hb3.fr ((Fr.refl No _).transNo f4) (fun h => h)
  have hB4 : Blk w4 g4 TSt #[.int .i64 0, .int .i64 0, .slice none 0 0, .slice none 0 0, .int .i64 0, .int .i64 0, .int .i64 0, .int .i64 0] := hb4.fr (Fr.refl No _) (fun h => h)
  have fW : Fr No w w4 := ((((Fr.refl No w).transNo f1).transNo f2).transNo f3).transNo f4
  have he2 : g2 = g1 + 1 := by rw [hg2, hs1]
  have he3 : g3 = g1 + 2 := by rw [hg3, hs2]; rw [he2]
  have he4 : g4 = g1 + 3 := by rw [hg4, hs3]; rw [he3]
  have hka : ∀ V, Fr No w4 V → (V.cell? ⟨g1, 0, none⟩ = some (.int .i64 (rg : Int)) ∧ V.cell? ⟨g1, 1, none⟩ = some (.slice (some ⟨bz, 0, none⟩) nz cz) ∧ V.cell? ⟨g1, 2, none⟩ = some (.slice (some ⟨bc, 0, none⟩) ms cc) ∧ V.cell? ⟨g1, 3, none⟩ = some (.slice At mt ct) ∧ V.cell? ⟨g1, 4, none⟩ = some (.slice (some ⟨bv, 0, none⟩) nv cv) ∧ V.cell? ⟨g1, 5, none⟩ = some (.slice Ar nr cr) ∧ V.cell? ⟨g1, 6, none⟩ = some (.slice Ao no_ co) ∧ V.cell? ⟨g1, 7, none⟩ = some (.int .i64 bl) ∧ V.cell? ⟨g1, 8, none⟩ = some (.int .i64 (le : Int)) ∧ V.cell? ⟨g1, 9, none⟩ = some (.int .i64 (bk : Int))) ∧ (V.cell? ⟨g2, 0, none⟩ = some (.int .i64 tk) ∧ V.cell? ⟨g2, 1, none⟩ = some (.int .i64 cn) ∧ V.cell? ⟨g2, 2, none⟩ = some (.slice Bt mt dt) ∧ V.cell? ⟨g2, 3, none⟩ = some (.slice Bs ms ds) ∧ V.cell? ⟨g2, 4, none⟩ = some (.int .i64 pr) ∧ V.cell? ⟨g2, 5, none⟩ = some (.int .i64 ev) ∧ V.cell? ⟨g2, 6, none⟩ = some (.int .i64 lo) ∧ V.cell? ⟨g2, 7, none⟩ = some (.int .i64 hi)) ∧ (V.cell? ⟨g3, 0, none⟩ = some (.int .i64 kd) ∧ V.cell? ⟨g3, 1, none⟩ = some (.int .i64 et) ∧ V.cell? ⟨g3, 2, none⟩ = some (.int .i64 tn) ∧ V.cell? ⟨g3, 3, none⟩ = some (.int .i64 cl) ∧ V.cell? ⟨g3, 4, none⟩ = some (.int .i64 ot) ∧ V.cell? ⟨g3, 5, none⟩ = some (.int .i64 ep) ∧ V.cell? ⟨g3, 6, none⟩ = some (.int .i64 fm) ∧ V.cell? ⟨g3, 7, none⟩ = some (.int .i64 un) ∧ V.cell? ⟨g3, 8, none⟩ = some (.int .i64 n)) ∧ (V.cell? ⟨g4, 0, none⟩ = some (.int .i64 0) ∧ V.cell? ⟨g4, 1, none⟩ = some (.int .i64 0) ∧ V.cell? ⟨g4, 2, none⟩ = some (.slice none 0 0) ∧ V.cell? ⟨g4, 3, none⟩ = some (.slice none 0 0) ∧ V.cell? ⟨g4, 4, none⟩ = some (.int .i64 0) ∧ V.cell? ⟨g4, 5, none⟩ = some (.int .i64 0) ∧ V.cell? ⟨g4, 6, none⟩ = some (.int .i64 0) ∧ V.cell? ⟨g4, 7, none⟩ = some (.int .i64 0)) := fun V hf => ⟨(let k := hB1.fr hf (fun h => h); ⟨k.cell 0, k.cell 1, k.cell 2, k.cell 3, k.cell 4, k.cell 5, k.cell 6, k.cell 7, k.cell 8, k.cell 9⟩), (let k := hB2.fr hf (fun h => h); ⟨k.cell 0, k.cell 1, k.cell 2, k.cell 3, k.cell 4, k.cell 5, k.cell 6, k.cell 7⟩), (let k := hB3.fr hf (fun h => h); ⟨k.cell 0, k.cell 1, k.cell 2, k.cell 3, k.cell 4, k.cell 5, k.cell 6, k.cell 7, k.cell 8⟩), (let k := hB4.fr hf (fun h => h); ⟨k.cell 0, k.cell 1, k.cell 2, k.cell 3, k.cell 4, k.cell 5, k.cell 6, k.cell 7⟩)⟩
  have hW : w4 = (((w.alloc (.cells #[.int .i64 (rg : Int), .slice (some ⟨bz, 0, none⟩) nz cz, .slice (some ⟨bc, 0, none⟩) ms cc, .slice At mt ct, .slice (some ⟨bv, 0, none⟩) nv cv, .slice Ar nr cr, .slice Ao no_ co, .int .i64 bl, .int .i64 (le : Int), .int .i64 (bk : Int)] TCf)).alloc (.cells #[.int .i64 tk, .int .i64 cn, .slice Bt mt dt, .slice Bs ms ds, .int .i64 pr, .int .i64 ev, .int .i64 lo, .int .i64 hi] TSt)).alloc (.cells #[.int .i64 kd, .int .i64 et, .int .i64 tn, .int .i64 cl, .int .i64 ot, .int .i64 ep, .int .i64 fm, .int .i64 un, .int .i64 n] TEm)).alloc (.cells #[.int .i64 0, .int .i64 0, .slice none 0 0, .slice none 0 0, .int .i64 0, .int .i64 0, .int .i64 0, .int .i64 0] TSt) := by rw [hw4, hw3, hw2, hw1]
  have hl1 : g1 < w4.heap.size := hB1.lt
  have hl2 : g2 < w4.heap.size := hB2.lt
  have hl3 : g3 < w4.heap.size := hB3.lt
  have hl4 : g4 < w4.heap.size := hB4.lt
  clear hw1 hb1 hs1 hw2 hb2 hs2 hw3 hb3 hs3 hw4 hb4 hs4
  have HG1 := Lib.hid hg1
  have HG2 := Lib.hid hg2
  have HG3 := Lib.hid hg3
  have HG4 := Lib.hid hg4
  have HE2 := Lib.hid he2
  have HE3 := Lib.hid he3
  have HE4 := Lib.hid he4
  clear hg1 hg2 hg3 hg4 he2 he3 he4
  have hz := fun V (hV : Fr No w4 V) => hB4.fr hV (fun h => h)
  have hsb := fun V (hV : Fr No w4 V) => hB2.fr hV (fun h => h)
  have hgz : w.heap.size ≤ g4 := by rw [HE4.out, HG1.out]; omega
  have hgs : w.heap.size ≤ g2 := by rw [HE2.out, HG1.out]; omega
  have hne : g4 ≠ g2 := by rw [HE4.out, HE2.out]; omega
  have hne1 : g1 ≠ g2 := by rw [HE2.out]; omega
  have hne3 : g3 ≠ g2 := by rw [HE3.out, HE2.out]; omega
  have HVL := Lib.hid hvl
  have HCP := Lib.hid hcp
  have HCFW := Lib.hid hcfw
  have HKA := Lib.hid hka
  have HW := Lib.hid hW
  have HZ := Lib.hid hz
  have HSB := Lib.hid hsb
  clear hvl hcp hcfw hka hW hz hsb
  go_enter Tryd.func58, Tryd.ntmps58
  go_upto_region 1 with fail
  rw [← HW.out]
  try rw [← show g4 = w.heap.size + 3 from by rw [HE4.out, HG1.out]]
  try rw [← show g3 = w.heap.size + 2 from by rw [HE3.out, HG1.out]]
  try rw [← show g2 = w.heap.size + 1 from by rw [HE2.out, HG1.out]]
  try rw [← HG1.out]
  have FQ := Lib.hid (Fr.refl No w4)
  obtain ⟨⟨e0, e1, e2, e3, e4, e5, e6, e7, e8, e9⟩, ⟨s0, s1, s2, s3, s4, s5, s6, s7⟩, ⟨x0, x1, x2, x3, x4, x5, x6, x7, x8⟩, ⟨z0, z1, z2, z3, z4, z5, z6, z7⟩⟩ := HKA.out w4 FQ.out
  go_upto_region 1 with fail
  go_cut [8] from 9 to 12 (fun x wx => (∃ B : Bool, x = .bool B ∧ (B = false → fitsB ⟨kd, et, tn, cl, ot, ep, fm, un, n⟩ mt ms rg nv = true)) ∧ Fr No w4 wx)
  case first =>
    go_wp2_with fail
    refine (HVL.out _).mono ?_
    rintro r v5 ⟨rfl, f5⟩
    generalize hvb : fitsB ⟨kd, et, tn, cl, ot, ep, fm, un, n⟩ mt ms rg nv = vb
    clear e0 e1 e2 e3 e4 e5 e6 e7 e8 e9 s0 s1 s2 s3 s4 s5 s6 s7 x0 x1 x2 x3 x4 x5 x6 x7 x8 z0 z1 z2 z3 z4 z5 z6 z7
    have P5 : Fr No w4 v5 := f5
    have FQ5 := Lib.hid (FQ.out.transNo f5)
    obtain ⟨⟨e0, e1, e2, e3, e4, e5, e6, e7, e8, e9⟩, ⟨s0, s1, s2, s3, s4, s5, s6, s7⟩, ⟨x0, x1, x2, x3, x4, x5, x6, x7, x8⟩, ⟨z0, z1, z2, z3, z4, z5, z6, z7⟩⟩ := HKA.out v5 FQ5.out
    all_goals (try go_wp2_with fail)
    all_goals go_meet
    all_goals exact ⟨⟨_, rfl, fun h => by rw [hvb]; simpa using h⟩, (by repeat (first | assumption | exact Fr.refl _ _ | refine Fr.alloc ?_ _ | refine Fr.drew ?_ | refine Fr.drewN ?_ _))⟩
  obtain ⟨⟨B, rfl, hB⟩, hcf⟩ := hcut
  replace FQ := Lib.hid (FQ.out.transNo hcf)
  clear hcf
  clear e0 e1 e2 e3 e4 e5 e6 e7 e8 e9 s0 s1 s2 s3 s4 s5 s6 s7 x0 x1 x2 x3 x4 x5 x6 x7 x8 z0 z1 z2 z3 z4 z5 z6 z7
  obtain ⟨⟨e0, e1, e2, e3, e4, e5, e6, e7, e8, e9⟩, ⟨s0, s1, s2, s3, s4, s5, s6, s7⟩, ⟨x0, x1, x2, x3, x4, x5, x6, x7, x8⟩, ⟨z0, z1, z2, z3, z4, z5, z6, z7⟩⟩ := HKA.out wc FQ.out
  rcases B with _ | _
  rotate_left
  · go_wp2_with fail
    refine (no_any _ _).mono ?_
    rintro e w9 ⟨rfl, f9⟩
    have hz9 := HZ.out w9 (FQ.out.transNo f9)
    have f8 := fW.transNo (FQ.out.transNo f9)
    obtain ⟨z0, z1, z2, z3, z4, z5, z6, z7⟩ := st_cells (s := stZero) hz9
    simp only at z0 z1 z2 z3 z4 z5 z6 z7
    have q0 := hz9.frozen 0
    have q1 := hz9.frozen 1
    have q2 := hz9.frozen 2
    have q3 := hz9.frozen 3
    have q4 := hz9.frozen 4
    have q5 := hz9.frozen 5
    have q6 := hz9.frozen 6
    have q7 := hz9.frozen 7
    have HZ9 := Lib.hid hz9
    have F8 := Lib.hid f8
    clear hz9 f8
    go_wp2_with fail
    exact bodyPost_ret (v := .tuple #[.agg stZero.arr, .int .i64 1]) (apply_results stZero 1 g4 _ _ (st_fill (z := stZero) stZero HZ9.out) rfl rfl) rfl (ApTo.no (by decide) (st_fill_fr stZero F8.out hgz) rfl)
  have HFT := Lib.hid (fits_of (hB rfl))
  clear hB
  go_upto_region 3 with fail
  go_cut [16] from 17 to 19 (fun x wx => (∃ B : Bool, x = .bool B ∧ (True)) ∧ Fr No wc wx)
  case first =>
    all_goals (try go_wp2_with fail)
    all_goals go_meet
    all_goals exact ⟨⟨_, rfl, trivial⟩, (by repeat (first | assumption | exact Fr.refl _ _ | refine Fr.alloc ?_ _ | refine Fr.drew ?_ | refine Fr.drewN ?_ _))⟩
  obtain ⟨⟨B, rfl, hB⟩, hcf⟩ := hcut
  replace FQ := Lib.hid (FQ.out.transNo hcf)
  clear hcf
  clear e0 e1 e2 e3 e4 e5 e6 e7 e8 e9 s0 s1 s2 s3 s4 s5 s6 s7 x0 x1 x2 x3 x4 x5 x6 x7 x8 z0 z1 z2 z3 z4 z5 z6 z7
  obtain ⟨⟨e0, e1, e2, e3, e4, e5, e6, e7, e8, e9⟩, ⟨s0, s1, s2, s3, s4, s5, s6, s7⟩, ⟨x0, x1, x2, x3, x4, x5, x6, x7, x8⟩, ⟨z0, z1, z2, z3, z4, z5, z6, z7⟩⟩ := HKA.out wc FQ.out
  rcases B with _ | _
  rotate_left
  · go_wp2_with fail
    refine (no_any _ _).mono ?_
    rintro e w9 ⟨rfl, f9⟩
    have hz9 := HZ.out w9 (FQ.out.transNo f9)
    have f8 := fW.transNo (FQ.out.transNo f9)
    obtain ⟨z0, z1, z2, z3, z4, z5, z6, z7⟩ := st_cells (s := stZero) hz9
    simp only at z0 z1 z2 z3 z4 z5 z6 z7
    have q0 := hz9.frozen 0
    have q1 := hz9.frozen 1
    have q2 := hz9.frozen 2
    have q3 := hz9.frozen 3
    have q4 := hz9.frozen 4
    have q5 := hz9.frozen 5
    have q6 := hz9.frozen 6
    have q7 := hz9.frozen 7
    have HZ9 := Lib.hid hz9
    have F8 := Lib.hid f8
    clear hz9 f8
    go_wp2_with fail
    exact bodyPost_ret (v := .tuple #[.agg stZero.arr, .int .i64 2]) (apply_results stZero 2 g4 _ _ (st_fill (z := stZero) stZero HZ9.out) rfl rfl) rfl (ApTo.no (by decide) (st_fill_fr stZero F8.out hgz) rfl)
  go_upto_region 5 with fail
  go_cut [23] from 24 to 28 (fun x wx => (∃ B : Bool, x = .bool B ∧ (True)) ∧ Fr No wc wx)
  case first =>
    all_goals (try go_wp2_with fail)
    all_goals go_meet
    all_goals exact ⟨⟨_, rfl, trivial⟩, (by repeat (first | assumption | exact Fr.refl _ _ | refine Fr.alloc ?_ _ | refine Fr.drew ?_ | refine Fr.drewN ?_ _))⟩
  obtain ⟨⟨B, rfl, hB⟩, hcf⟩ := hcut
  replace FQ := Lib.hid (FQ.out.transNo hcf)
  clear hcf
  clear e0 e1 e2 e3 e4 e5 e6 e7 e8 e9 s0 s1 s2 s3 s4 s5 s6 s7 x0 x1 x2 x3 x4 x5 x6 x7 x8 z0 z1 z2 z3 z4 z5 z6 z7
  obtain ⟨⟨e0, e1, e2, e3, e4, e5, e6, e7, e8, e9⟩, ⟨s0, s1, s2, s3, s4, s5, s6, s7⟩, ⟨x0, x1, x2, x3, x4, x5, x6, x7, x8⟩, ⟨z0, z1, z2, z3, z4, z5, z6, z7⟩⟩ := HKA.out wc FQ.out
  rcases B with _ | _
  rotate_left
  · go_wp2_with fail
    refine (no_any _ _).mono ?_
    rintro e w9 ⟨rfl, f9⟩
    have hz9 := HZ.out w9 (FQ.out.transNo f9)
    have f8 := fW.transNo (FQ.out.transNo f9)
    obtain ⟨z0, z1, z2, z3, z4, z5, z6, z7⟩ := st_cells (s := stZero) hz9
    simp only at z0 z1 z2 z3 z4 z5 z6 z7
    have q0 := hz9.frozen 0
    have q1 := hz9.frozen 1
    have q2 := hz9.frozen 2
    have q3 := hz9.frozen 3
    have q4 := hz9.frozen 4
    have q5 := hz9.frozen 5
    have q6 := hz9.frozen 6
    have q7 := hz9.frozen 7
    have HZ9 := Lib.hid hz9
    have F8 := Lib.hid f8
    clear hz9 f8
    go_wp2_with fail
    exact bodyPost_ret (v := .tuple #[.agg stZero.arr, .int .i64 3]) (apply_results stZero 3 g4 _ _ (st_fill (z := stZero) stZero HZ9.out) rfl rfl) rfl (ApTo.no (by decide) (st_fill_fr stZero F8.out hgz) rfl)
  go_upto_region 7 with fail
  go_cut [] from 32 to 33 (fun wx => ∃ s1 : St, ApS w4 g2 g4 ⟨rg, nz, ms, mt, nv, le, bk, bz, bc, bv, cz, cc, ct, cv, At, Ar, nr, cr, Ao, no_, co, bl⟩ wx s1)
  case first =>
    go_wp2_with fail
    refine (HCP.out _ (fW.transNo FQ.out)).mono ?_
    rintro r v5 ⟨⟨tk1, cn1, Bt1, mt1, dt1, Bs1, ms1, ds1, pr1, ev1, lo1, hi1⟩, rfl, hok, f5⟩
    clear e0 e1 e2 e3 e4 e5 e6 e7 e8 e9 s0 s1 s2 s3 s4 s5 s6 s7 x0 x1 x2 x3 x4 x5 x6 x7 x8 z0 z1 z2 z3 z4 z5 z6 z7
    have FQ5 := Lib.hid (FQ.out.transNo f5)
    obtain ⟨⟨e0, e1, e2, e3, e4, e5, e6, e7, e8, e9⟩, ⟨s0, s1, s2, s3, s4, s5, s6, s7⟩, ⟨x0, x1, x2, x3, x4, x5, x6, x7, x8⟩, ⟨z0, z1, z2, z3, z4, z5, z6, z7⟩⟩ := HKA.out v5 FQ5.out
    have hb5 := HSB.out v5 FQ5.out
    have hsz5 := FQ.out.size
    have hap := ApS.fill (w4 := w4) (g4 := g4) (s0 := ⟨tk, cn, Bt, mt, dt, Bs, ms, ds, pr, ev, lo, hi⟩) (H := fun i => i < v5.heap.size) hb5 (HZ.out v5 FQ5.out) (hok.mono (fun i hi => ⟨Nat.le_trans hsz5 hi.1, hi.2⟩)) FQ5.out hl2 hne
    have q0 := hb5.frozen 0
    have q1 := hb5.frozen 1
    have q2 := hb5.frozen 2
    have q3 := hb5.frozen 3
    have q4 := hb5.frozen 4
    have q5 := hb5.frozen 5
    have q6 := hb5.frozen 6
    have q7 := hb5.frozen 7
    clear hok hb5
    have HAP := Lib.hid hap
    clear hap
    go_wp2_with fail
    go_meet
    exact ⟨_, HAP.out⟩
  obtain ⟨sx, hap⟩ := hcut
  clear e0 e1 e2 e3 e4 e5 e6 e7 e8 e9 s0 s1 s2 s3 s4 s5 s6 s7 x0 x1 x2 x3 x4 x5 x6 x7 x8 z0 z1 z2 z3 z4 z5 z6 z7
  obtain ⟨tk1, cn1, Bt1, mt1, dt1, Bs1, ms1, ds1, pr1, ev1, lo1, hi1⟩ := sx
  have HS5 := Lib.hid hap
  obtain ⟨s0, s1, s2, s3, s4, s5, s6, s7⟩ := st_cells hap.sb
  simp only at s0 s1 s2 s3 s4 s5 s6 s7
  have p0 := hap.sb.frozen 0
  have p1 := hap.sb.frozen 1
  have hl2w := hap.sb.lt
  obtain ⟨x0, x1, x2, x3, x4, x5, x6, x7, x8⟩ : wc.cell? ⟨g3, 0, none⟩ = some (.int .i64 kd) ∧ wc.cell? ⟨g3, 1, none⟩ = some (.int .i64 et) ∧ wc.cell? ⟨g3, 2, none⟩ = some (.int .i64 tn) ∧ wc.cell? ⟨g3, 3, none⟩ = some (.int .i64 cl) ∧ wc.cell? ⟨g3, 4, none⟩ = some (.int .i64 ot) ∧ wc.cell? ⟨g3, 5, none⟩ = some (.int .i64 ep) ∧ wc.cell? ⟨g3, 6, none⟩ = some (.int .i64 fm) ∧ wc.cell? ⟨g3, 7, none⟩ = some (.int .i64 un) ∧ wc.cell? ⟨g3, 8, none⟩ = some (.int .i64 n) := let k := hB3.fr hap.fr hne3; ⟨k.cell 0, k.cell 1, k.cell 2, k.cell 3, k.cell 4, k.cell 5, k.cell 6, k.cell 7, k.cell 8⟩
  clear hap
  go_upto_region 9 with fail
  have hap := (HS5.out.nums (k := 0) (u := .int .i64 et) (tk' := et) (cn' := cn1) (pr' := pr1) (ev' := ev1) (lo' := lo1) (hi' := hi1) hl2 hne rfl).nums (k := 1) (u := .int .i64 (wrap64 (cn1 + 1))) (tk' := et) (cn' := wrap64 (cn1 + 1)) (pr' := pr1) (ev' := ev1) (lo' := lo1) (hi' := hi1) hl2 hne rfl
  generalize wrap64 (cn1 + 1) = cn2 at *
  generalize (wc.setCell ⟨g2, 0, none⟩ (.int .i64 et)).setCell ⟨g2, 1, none⟩ (.int .i64 cn2) = w5 at *
  clear s0 s1 s2 s3 s4 s5 s6 s7 x0 x1 x2 x3 x4 x5 x6 x7 x8 p0 p1 HS5 hl2w
  have hms1 := hap.ok.ms.symm
  have hmt1 := hap.ok.mt.symm
  simp only at hms1 hmt1
  subst hms1 hmt1
  have hC1 := hB1.fr hap.fr hne1
  have hC2 := hap.sb
  have hC3 := hB3.fr hap.fr hne3
  have hC4 := hap.zb
  have fw5 : Fr No w w5 := fW.transNew hap.fr (fun i hi => by have hi : i = g2 := hi; omega)
  have hka := fun V (hV : Fr No w5 V) => (⟨(let k := hC1.fr hV (fun h => h); ⟨k.cell 0, k.cell 1, k.cell 2, k.cell 3, k.cell 4, k.cell 5, k.cell 6, k.cell 7, k.cell 8, k.cell 9⟩), (let k := hC2.fr hV (fun h => h); ⟨k.cell 0, k.cell 1, k.cell 2, k.cell 3, k.cell 4, k.cell 5, k.cell 6, k.cell 7⟩), (let k := hC3.fr hV (fun h => h); ⟨k.cell 0, k.cell 1, k.cell 2, k.cell 3, k.cell 4, k.cell 5, k.cell 6, k.cell 7, k.cell 8⟩), (let k := hC4.fr hV (fun h => h); ⟨k.cell 0, k.cell 1, k.cell 2, k.cell 3, k.cell 4, k.cell 5, k.cell 6, k.cell 7⟩)⟩ : (V.cell? ⟨g1, 0, none⟩ = some (.int .i64 (rg : Int)) ∧ V.cell? ⟨g1, 1, none⟩ = some (.slice (some ⟨bz, 0, none⟩) nz cz) ∧ V.cell? ⟨g1, 2, none⟩ = some (.slice (some ⟨bc, 0, none⟩) ms cc) ∧ V.cell? ⟨g1, 3, none⟩ = some (.slice At mt ct) ∧ V.cell? ⟨g1, 4, none⟩ = some (.slice (some ⟨bv, 0, none⟩) nv cv) ∧ V.cell? ⟨g1, 5, none⟩ = some (.slice Ar nr cr) ∧ V.cell? ⟨g1, 6, none⟩ = some (.slice Ao no_ co) ∧ V.cell? ⟨g1, 7, none⟩ = some (.int .i64 bl) ∧ V.cell? ⟨g1, 8, none⟩ = some (.int .i64 (le : Int)) ∧ V.cell? ⟨g1, 9, none⟩ = some (.int .i64 (bk : Int))) ∧ (V.cell? ⟨g2, 0, none⟩ = some (.int .i64 et) ∧ V.cell? ⟨g2, 1, none⟩ = some (.int .i64 cn2) ∧ V.cell? ⟨g2, 2, none⟩ = some (.slice Bt1 mt dt1) ∧ V.cell? ⟨g2, 3, none⟩ = some (.slice Bs1 ms ds1) ∧ V.cell? ⟨g2, 4, none⟩ = some (.int .i64 pr1) ∧ V.cell? ⟨g2, 5, none⟩ = some (.int .i64 ev1) ∧ V.cell? ⟨g2, 6, none⟩ = some (.int .i64 lo1) ∧ V.cell? ⟨g2, 7, none⟩ = some (.int .i64 hi1)) ∧ (V.cell? ⟨g3, 0, none⟩ = some (.int .i64 kd) ∧ V.cell? ⟨g3, 1, none⟩ = some (.int .i64 et) ∧ V.cell? ⟨g3, 2, none⟩ = some (.int .i64 tn) ∧ V.cell? ⟨g3, 3, none⟩ = some (.int .i64 cl) ∧ V.cell? ⟨g3, 4, none⟩ = some (.int .i64 ot) ∧ V.cell? ⟨g3, 5, none⟩ = some (.int .i64 ep) ∧ V.cell? ⟨g3, 6, none⟩ = some (.int .i64 fm) ∧ V.cell? ⟨g3, 7, none⟩ = some (.int .i64 un) ∧ V.cell? ⟨g3, 8, none⟩ = some (.int .i64 n)) ∧ (V.cell? ⟨g4, 0, none⟩ = some (.int .i64 0) ∧ V.cell? ⟨g4, 1, none⟩ = some (.int .i64 0) ∧ V.cell? ⟨g4, 2, none⟩ = some (.slice none 0 0) ∧ V.cell? ⟨g4, 3, none⟩ = some (.slice none 0 0) ∧ V.cell? ⟨g4, 4, none⟩ = some (.int .i64 0) ∧ V.cell? ⟨g4, 5, none⟩ = some (.int .i64 0) ∧ V.cell? ⟨g4, 6, none⟩ = some (.int .i64 0) ∧ V.cell? ⟨g4, 7, none⟩ = some (.int .i64 0)))
  have hz := fun V (hV : Fr No w5 V) => hC4.fr hV (fun h => h)
  have hsb := fun V (hV : Fr No w5 V) => (hC2.fr hV (fun h => h) : Blk V g2 TSt (St.arr ⟨et, cn2, Bt1, mt, dt1, Bs1, ms, ds1, pr1, ev1, lo1, hi1⟩))
  have hok5 := hap.ok
  have hs45 := hap.fr.size
  obtain ⟨GG, hGG⟩ : ∃ GG : Nat → Prop, GG = fun i => w4.heap.size ≤ i ∧ i < w5.heap.size := ⟨_, rfl⟩
  have hG0 : ∀ i, GG i → w4.heap.size ≤ i ∧ i < w5.heap.size := fun i hi => by rw [hGG] at hi; exact hi
  rw [← hGG] at hok5
  have hst := fun V (hV : Fr No w5 V) => hok5.frNo hV
  have hGV := fun V (hV : Fr No w5 V) => (fun i hi => Nat.lt_of_lt_of_le (hG0 i hi).2 hV.size : ∀ i, GG i → i < V.heap.size)
  have hcf := fun V (hV : Fr No w5 V) W (hW : Fr GG V W) => HCFW.out W (((fw5.transNo hV).mono (fun _ h => h.elim)).trans hW (fun i hi => .inl (Nat.le_trans fW.size (hG0 i hi).1)))
  have hfin : ∀ V (hV : Fr No w5 V) (s : St) (k : Int) W, (k = 0 → StOk W GG ⟨rg, nz, ms, mt, nv, le, bk, bz, bc, bv, cz, cc, ct, cv, At, Ar, nr, cr, Ao, no_, co, bl⟩ s) → Fr GG V W → ApTo w ⟨rg, nz, ms, mt, nv, le, bk, bz, bc, bv, cz, cc, ct, cv, At, Ar, nr, cr, Ao, no_, co, bl⟩ (.returned (.tuple #[.agg s.arr, .int .i64 k])) ((World.setCell (World.setCell (World.setCell (World.setCell (World.setCell (World.setCell (World.setCell (World.setCell W ⟨g4, 0, none⟩ (.int .i64 s.tk)) ⟨g4, 1, none⟩ (.int .i64 s.cn)) ⟨g4, 2, none⟩ (.slice s.Bt s.mt s.dt)) ⟨g4, 3, none⟩ (.slice s.Bs s.ms s.ds)) ⟨g4, 4, none⟩ (.int .i64 s.pr)) ⟨g4, 5, none⟩ (.int .i64 s.ev)) ⟨g4, 6, none⟩ (.int .i64 s.lo)) ⟨g4, 7, none⟩ (.int .i64 s.hi))) := fun V hV s k W hok hf =>
    ApTo.fill (B := w4.heap.size) (fun hk => (hok hk).mono (fun i hi => (hG0 i hi).1)) ((fw5.transNo hV).transNew hf (fun i hi => Nat.le_trans fW.size (hG0 i hi).1)) hgz hl4 rfl
  have hzf : ∀ V (hV : Fr No w5 V) W, Fr GG V W → Blk W g4 TSt stZero.arr := fun V hV W hf => (hC4.fr hV (fun h => h)).fr hf (fun h => by have := (hG0 _ h).1; omega)
  clear fW hap hGG hok5 HKA HZ HSB hB1 hB2 hB3 hB4 f1 f2 f3 f4
  clear FQ
  have fW := fw5
  have FQ := Lib.hid (Fr.refl No w5)
  have HKA := Lib.hid hka
  have HZ := Lib.hid hz
  have HSB := Lib.hid hsb
  have HST := Lib.hid hst
  have HGV := Lib.hid hGV
  have HCF := Lib.hid hcf
  have HFIN := Lib.hid hfin
  have HZF := Lib.hid hzf
  clear hka hz hsb hst hGV hcf hfin hzf
  clear hC1 hC2 hC3 hC4 fw5
  obtain ⟨hk16, hften, hfcell, hfcell4, hfother, hfver, hfwin, hfreg⟩ := HFT.out
  simp only at hk16 hften hfcell hfcell4 hfother hfver hfwin hfreg
  clear HFT
  obtain ⟨⟨e0, e1, e2, e3, e4, e5, e6, e7, e8, e9⟩, ⟨s0, s1, s2, s3, s4, s5, s6, s7⟩, ⟨x0, x1, x2, x3, x4, x5, x6, x7, x8⟩, ⟨z0, z1, z2, z3, z4, z5, z6, z7⟩⟩ := HKA.out w5 FQ.out
  rcases kinds16 hk16 with rfl | rfl | rfl | rfl | rfl | rfl | rfl | rfl | rfl | rfl | rfl | rfl | rfl | rfl | rfl | rfl
  · have hoth := hfother rfl
    rcases (show ot = -1 ∨ 0 ≤ ot from by omega) with rfl | ho
    · go_wp2_with fail
      refine (place_neg (HCF.out w5 FQ.out) (HST.out w5 FQ.out) (HGV.out w5 FQ.out) ⟨1, et, tn, cl, -1, ep, fm, un, n⟩ (hften (by decide)).1 (hften (by decide)).2 (hfcell (by simp)).1 (hfcell (by simp)).2 rfl).mono ?_
      rintro r w9 ⟨⟨atk, acn, aBt, amt, adt, aBs, ams, ads, apr, aev, alo, ahi⟩, ak, rfl, hok, f9⟩
      clear e0 e1 e2 e3 e4 e5 e6 e7 e8 e9 s0 s1 s2 s3 s4 s5 s6 s7 x0 x1 x2 x3 x4 x5 x6 x7 x8 z0 z1 z2 z3 z4 z5 z6 z7
      have T9 := Lib.hid (HFIN.out w5 FQ.out ⟨atk, acn, aBt, amt, adt, aBs, ams, ads, apr, aev, alo, ahi⟩ ak w9 hok f9)
      have hz9 := HZF.out w5 FQ.out w9 f9
      have T8 := Lib.hid (st_fill (q := g4) (z := stZero) ⟨atk, acn, aBt, amt, adt, aBs, ams, ads, apr, aev, alo, ahi⟩ hz9)
      obtain ⟨y0, y1, y2, y3, y4, y5, y6, y7⟩ := st_cells (s := stZero) hz9
      simp only at y0 y1 y2 y3 y4 y5 y6 y7
      have q0 := hz9.frozen 0
      have q1 := hz9.frozen 1
      have q2 := hz9.frozen 2
      have q3 := hz9.frozen 3
      have q4 := hz9.frozen 4
      have q5 := hz9.frozen 5
      have q6 := hz9.frozen 6
      have q7 := hz9.frozen 7
      clear hok f9 hz9
      go_wp2_with fail
      exact bodyPost_ret (v := .tuple #[.agg (St.arr ⟨atk, acn, aBt, amt, adt, aBs, ams, ads, apr, aev, alo, ahi⟩), .int .i64 ak]) (apply_results ⟨atk, acn, aBt, amt, adt, aBs, ams, ads, apr, aev, alo, ahi⟩ ak g4 _ _ T8.out rfl rfl) rfl T9.out
    · go_wp2_with fail
      refine (place_any (HCF.out w5 FQ.out) (HST.out w5 FQ.out) (HGV.out w5 FQ.out) ⟨1, et, tn, cl, ot, ep, fm, un, n⟩ (hften (by decide)).1 (hften (by decide)).2 (hfcell (by simp)).1 (hfcell (by simp)).2 ho hoth.2).mono ?_
      rintro r w9 ⟨⟨atk, acn, aBt, amt, adt, aBs, ams, ads, apr, aev, alo, ahi⟩, ak, rfl, hok, f9⟩
      clear e0 e1 e2 e3 e4 e5 e6 e7 e8 e9 s0 s1 s2 s3 s4 s5 s6 s7 x0 x1 x2 x3 x4 x5 x6 x7 x8 z0 z1 z2 z3 z4 z5 z6 z7
      have T9 := Lib.hid (HFIN.out w5 FQ.out ⟨atk, acn, aBt, amt, adt, aBs, ams, ads, apr, aev, alo, ahi⟩ ak w9 hok f9)
      have hz9 := HZF.out w5 FQ.out w9 f9
      have T8 := Lib.hid (st_fill (q := g4) (z := stZero) ⟨atk, acn, aBt, amt, adt, aBs, ams, ads, apr, aev, alo, ahi⟩ hz9)
      obtain ⟨y0, y1, y2, y3, y4, y5, y6, y7⟩ := st_cells (s := stZero) hz9
      simp only at y0 y1 y2 y3 y4 y5 y6 y7
      have q0 := hz9.frozen 0
      have q1 := hz9.frozen 1
      have q2 := hz9.frozen 2
      have q3 := hz9.frozen 3
      have q4 := hz9.frozen 4
      have q5 := hz9.frozen 5
      have q6 := hz9.frozen 6
      have q7 := hz9.frozen 7
      clear hok f9 hz9
      go_wp2_with fail
      exact bodyPost_ret (v := .tuple #[.agg (St.arr ⟨atk, acn, aBt, amt, adt, aBs, ams, ads, apr, aev, alo, ahi⟩), .int .i64 ak]) (apply_results ⟨atk, acn, aBt, amt, adt, aBs, ams, ads, apr, aev, alo, ahi⟩ ak g4 _ _ T8.out rfl rfl) rfl T9.out
  · go_wp2_with fail
    refine (grant_any (HCF.out w5 FQ.out) (HST.out w5 FQ.out) (HGV.out w5 FQ.out) ⟨2, et, tn, cl, ot, ep, fm, un, n⟩ (hften (by decide)).1 (hften (by decide)).2 (hfcell (by simp)).1 (hfcell (by simp)).2 (hfwin (by simp)).1 (hfwin (by simp)).2).mono ?_
    rintro r w9 ⟨⟨atk, acn, aBt, amt, adt, aBs, ams, ads, apr, aev, alo, ahi⟩, ak, rfl, hok, f9⟩
    clear e0 e1 e2 e3 e4 e5 e6 e7 e8 e9 s0 s1 s2 s3 s4 s5 s6 s7 x0 x1 x2 x3 x4 x5 x6 x7 x8 z0 z1 z2 z3 z4 z5 z6 z7
    have T9 := Lib.hid (HFIN.out w5 FQ.out ⟨atk, acn, aBt, amt, adt, aBs, ams, ads, apr, aev, alo, ahi⟩ ak w9 hok f9)
    have hz9 := HZF.out w5 FQ.out w9 f9
    have T8 := Lib.hid (st_fill (q := g4) (z := stZero) ⟨atk, acn, aBt, amt, adt, aBs, ams, ads, apr, aev, alo, ahi⟩ hz9)
    obtain ⟨y0, y1, y2, y3, y4, y5, y6, y7⟩ := st_cells (s := stZero) hz9
    simp only at y0 y1 y2 y3 y4 y5 y6 y7
    have q0 := hz9.frozen 0
    have q1 := hz9.frozen 1
    have q2 := hz9.frozen 2
    have q3 := hz9.frozen 3
    have q4 := hz9.frozen 4
    have q5 := hz9.frozen 5
    have q6 := hz9.frozen 6
    have q7 := hz9.frozen 7
    clear hok f9 hz9
    go_wp2_with fail
    exact bodyPost_ret (v := .tuple #[.agg (St.arr ⟨atk, acn, aBt, amt, adt, aBs, ams, ads, apr, aev, alo, ahi⟩), .int .i64 ak]) (apply_results ⟨atk, acn, aBt, amt, adt, aBs, ams, ads, apr, aev, alo, ahi⟩ ak g4 _ _ T8.out rfl rfl) rfl T9.out
  · go_wp2_with fail
    refine (cut_any (HCF.out w5 FQ.out w5 (Fr.refl _ _)) (HST.out w5 FQ.out) (HGV.out w5 FQ.out) ⟨3, et, tn, cl, ot, ep, fm, un, n⟩ (hften (by decide)).1 (hften (by decide)).2).mono ?_
    rintro r w9 ⟨⟨atk, acn, aBt, amt, adt, aBs, ams, ads, apr, aev, alo, ahi⟩, ak, rfl, hok, f9⟩
    clear e0 e1 e2 e3 e4 e5 e6 e7 e8 e9 s0 s1 s2 s3 s4 s5 s6 s7 x0 x1 x2 x3 x4 x5 x6 x7 x8 z0 z1 z2 z3 z4 z5 z6 z7
    have T9 := Lib.hid (HFIN.out w5 FQ.out ⟨atk, acn, aBt, amt, adt, aBs, ams, ads, apr, aev, alo, ahi⟩ ak w9 hok f9)
    have hz9 := HZF.out w5 FQ.out w9 f9
    have T8 := Lib.hid (st_fill (q := g4) (z := stZero) ⟨atk, acn, aBt, amt, adt, aBs, ams, ads, apr, aev, alo, ahi⟩ hz9)
    obtain ⟨y0, y1, y2, y3, y4, y5, y6, y7⟩ := st_cells (s := stZero) hz9
    simp only at y0 y1 y2 y3 y4 y5 y6 y7
    have q0 := hz9.frozen 0
    have q1 := hz9.frozen 1
    have q2 := hz9.frozen 2
    have q3 := hz9.frozen 3
    have q4 := hz9.frozen 4
    have q5 := hz9.frozen 5
    have q6 := hz9.frozen 6
    have q7 := hz9.frozen 7
    clear hok f9 hz9
    go_wp2_with fail
    exact bodyPost_ret (v := .tuple #[.agg (St.arr ⟨atk, acn, aBt, amt, adt, aBs, ams, ads, apr, aev, alo, ahi⟩), .int .i64 ak]) (apply_results ⟨atk, acn, aBt, amt, adt, aBs, ams, ads, apr, aev, alo, ahi⟩ ak g4 _ _ T8.out rfl rfl) rfl T9.out
  · have hc4 := hfcell4 rfl
    rcases (show cl = -1 ∨ 0 ≤ cl from by omega) with rfl | ho
    · go_wp2_with fail
      refine (standby_neg (HCF.out w5 FQ.out) (HST.out w5 FQ.out) (HGV.out w5 FQ.out) ⟨4, et, tn, -1, ot, ep, fm, un, n⟩ (hften (by decide)).1 (hften (by decide)).2 rfl).mono ?_
      rintro r w9 ⟨⟨atk, acn, aBt, amt, adt, aBs, ams, ads, apr, aev, alo, ahi⟩, ak, rfl, hok, f9⟩
      clear e0 e1 e2 e3 e4 e5 e6 e7 e8 e9 s0 s1 s2 s3 s4 s5 s6 s7 x0 x1 x2 x3 x4 x5 x6 x7 x8 z0 z1 z2 z3 z4 z5 z6 z7
      have T9 := Lib.hid (HFIN.out w5 FQ.out ⟨atk, acn, aBt, amt, adt, aBs, ams, ads, apr, aev, alo, ahi⟩ ak w9 hok f9)
      have hz9 := HZF.out w5 FQ.out w9 f9
      have T8 := Lib.hid (st_fill (q := g4) (z := stZero) ⟨atk, acn, aBt, amt, adt, aBs, ams, ads, apr, aev, alo, ahi⟩ hz9)
      obtain ⟨y0, y1, y2, y3, y4, y5, y6, y7⟩ := st_cells (s := stZero) hz9
      simp only at y0 y1 y2 y3 y4 y5 y6 y7
      have q0 := hz9.frozen 0
      have q1 := hz9.frozen 1
      have q2 := hz9.frozen 2
      have q3 := hz9.frozen 3
      have q4 := hz9.frozen 4
      have q5 := hz9.frozen 5
      have q6 := hz9.frozen 6
      have q7 := hz9.frozen 7
      clear hok f9 hz9
      go_wp2_with fail
      exact bodyPost_ret (v := .tuple #[.agg (St.arr ⟨atk, acn, aBt, amt, adt, aBs, ams, ads, apr, aev, alo, ahi⟩), .int .i64 ak]) (apply_results ⟨atk, acn, aBt, amt, adt, aBs, ams, ads, apr, aev, alo, ahi⟩ ak g4 _ _ T8.out rfl rfl) rfl T9.out
    · go_wp2_with fail
      refine (standby_any (HCF.out w5 FQ.out) (HST.out w5 FQ.out) (HGV.out w5 FQ.out) ⟨4, et, tn, cl, ot, ep, fm, un, n⟩ (hften (by decide)).1 (hften (by decide)).2 ho hc4.2).mono ?_
      rintro r w9 ⟨⟨atk, acn, aBt, amt, adt, aBs, ams, ads, apr, aev, alo, ahi⟩, ak, rfl, hok, f9⟩
      clear e0 e1 e2 e3 e4 e5 e6 e7 e8 e9 s0 s1 s2 s3 s4 s5 s6 s7 x0 x1 x2 x3 x4 x5 x6 x7 x8 z0 z1 z2 z3 z4 z5 z6 z7
      have T9 := Lib.hid (HFIN.out w5 FQ.out ⟨atk, acn, aBt, amt, adt, aBs, ams, ads, apr, aev, alo, ahi⟩ ak w9 hok f9)
      have hz9 := HZF.out w5 FQ.out w9 f9
      have T8 := Lib.hid (st_fill (q := g4) (z := stZero) ⟨atk, acn, aBt, amt, adt, aBs, ams, ads, apr, aev, alo, ahi⟩ hz9)
      obtain ⟨y0, y1, y2, y3, y4, y5, y6, y7⟩ := st_cells (s := stZero) hz9
      simp only at y0 y1 y2 y3 y4 y5 y6 y7
      have q0 := hz9.frozen 0
      have q1 := hz9.frozen 1
      have q2 := hz9.frozen 2
      have q3 := hz9.frozen 3
      have q4 := hz9.frozen 4
      have q5 := hz9.frozen 5
      have q6 := hz9.frozen 6
      have q7 := hz9.frozen 7
      clear hok f9 hz9
      go_wp2_with fail
      exact bodyPost_ret (v := .tuple #[.agg (St.arr ⟨atk, acn, aBt, amt, adt, aBs, ams, ads, apr, aev, alo, ahi⟩), .int .i64 ak]) (apply_results ⟨atk, acn, aBt, amt, adt, aBs, ams, ads, apr, aev, alo, ahi⟩ ak g4 _ _ T8.out rfl rfl) rfl T9.out
  · go_wp2_with fail
    refine (ready_any (HCF.out w5 FQ.out w5 (Fr.refl _ _)) (HST.out w5 FQ.out) (HGV.out w5 FQ.out) ⟨5, et, tn, cl, ot, ep, fm, un, n⟩ (hften (by decide)).1 (hften (by decide)).2 (hfcell (by simp)).1 (hfcell (by simp)).2).mono ?_
    rintro r w9 ⟨⟨atk, acn, aBt, amt, adt, aBs, ams, ads, apr, aev, alo, ahi⟩, ak, rfl, hok, f9⟩
    clear e0 e1 e2 e3 e4 e5 e6 e7 e8 e9 s0 s1 s2 s3 s4 s5 s6 s7 x0 x1 x2 x3 x4 x5 x6 x7 x8 z0 z1 z2 z3 z4 z5 z6 z7
    have T9 := Lib.hid (HFIN.out w5 FQ.out ⟨atk, acn, aBt, amt, adt, aBs, ams, ads, apr, aev, alo, ahi⟩ ak w9 hok f9)
    have hz9 := HZF.out w5 FQ.out w9 f9
    have T8 := Lib.hid (st_fill (q := g4) (z := stZero) ⟨atk, acn, aBt, amt, adt, aBs, ams, ads, apr, aev, alo, ahi⟩ hz9)
    obtain ⟨y0, y1, y2, y3, y4, y5, y6, y7⟩ := st_cells (s := stZero) hz9
    simp only at y0 y1 y2 y3 y4 y5 y6 y7
    have q0 := hz9.frozen 0
    have q1 := hz9.frozen 1
    have q2 := hz9.frozen 2
    have q3 := hz9.frozen 3
    have q4 := hz9.frozen 4
    have q5 := hz9.frozen 5
    have q6 := hz9.frozen 6
    have q7 := hz9.frozen 7
    clear hok f9 hz9
    go_wp2_with fail
    exact bodyPost_ret (v := .tuple #[.agg (St.arr ⟨atk, acn, aBt, amt, adt, aBs, ams, ads, apr, aev, alo, ahi⟩), .int .i64 ak]) (apply_results ⟨atk, acn, aBt, amt, adt, aBs, ams, ads, apr, aev, alo, ahi⟩ ak g4 _ _ T8.out rfl rfl) rfl T9.out
  · go_wp2_with fail
    refine (migrate_any (HCF.out w5 FQ.out) (HST.out w5 FQ.out) (HGV.out w5 FQ.out) ⟨6, et, tn, cl, ot, ep, fm, un, n⟩ (hften (by decide)).1 (hften (by decide)).2 (hfcell (by simp)).1 (hfcell (by simp)).2).mono ?_
    rintro r w9 ⟨⟨atk, acn, aBt, amt, adt, aBs, ams, ads, apr, aev, alo, ahi⟩, ak, rfl, hok, f9⟩
    clear e0 e1 e2 e3 e4 e5 e6 e7 e8 e9 s0 s1 s2 s3 s4 s5 s6 s7 x0 x1 x2 x3 x4 x5 x6 x7 x8 z0 z1 z2 z3 z4 z5 z6 z7
    have T9 := Lib.hid (HFIN.out w5 FQ.out ⟨atk, acn, aBt, amt, adt, aBs, ams, ads, apr, aev, alo, ahi⟩ ak w9 hok f9)
    have hz9 := HZF.out w5 FQ.out w9 f9
    have T8 := Lib.hid (st_fill (q := g4) (z := stZero) ⟨atk, acn, aBt, amt, adt, aBs, ams, ads, apr, aev, alo, ahi⟩ hz9)
    obtain ⟨y0, y1, y2, y3, y4, y5, y6, y7⟩ := st_cells (s := stZero) hz9
    simp only at y0 y1 y2 y3 y4 y5 y6 y7
    have q0 := hz9.frozen 0
    have q1 := hz9.frozen 1
    have q2 := hz9.frozen 2
    have q3 := hz9.frozen 3
    have q4 := hz9.frozen 4
    have q5 := hz9.frozen 5
    have q6 := hz9.frozen 6
    have q7 := hz9.frozen 7
    clear hok f9 hz9
    go_wp2_with fail
    exact bodyPost_ret (v := .tuple #[.agg (St.arr ⟨atk, acn, aBt, amt, adt, aBs, ams, ads, apr, aev, alo, ahi⟩), .int .i64 ak]) (apply_results ⟨atk, acn, aBt, amt, adt, aBs, ams, ads, apr, aev, alo, ahi⟩ ak g4 _ _ T8.out rfl rfl) rfl T9.out
  · go_wp2_with fail
    refine (abandon_any (HCF.out w5 FQ.out w5 (Fr.refl _ _)) (HST.out w5 FQ.out) (HGV.out w5 FQ.out) ⟨7, et, tn, cl, ot, ep, fm, un, n⟩ (hften (by decide)).1 (hften (by decide)).2).mono ?_
    rintro r w9 ⟨⟨atk, acn, aBt, amt, adt, aBs, ams, ads, apr, aev, alo, ahi⟩, ak, rfl, hok, f9⟩
    clear e0 e1 e2 e3 e4 e5 e6 e7 e8 e9 s0 s1 s2 s3 s4 s5 s6 s7 x0 x1 x2 x3 x4 x5 x6 x7 x8 z0 z1 z2 z3 z4 z5 z6 z7
    have T9 := Lib.hid (HFIN.out w5 FQ.out ⟨atk, acn, aBt, amt, adt, aBs, ams, ads, apr, aev, alo, ahi⟩ ak w9 hok f9)
    have hz9 := HZF.out w5 FQ.out w9 f9
    have T8 := Lib.hid (st_fill (q := g4) (z := stZero) ⟨atk, acn, aBt, amt, adt, aBs, ams, ads, apr, aev, alo, ahi⟩ hz9)
    obtain ⟨y0, y1, y2, y3, y4, y5, y6, y7⟩ := st_cells (s := stZero) hz9
    simp only at y0 y1 y2 y3 y4 y5 y6 y7
    have q0 := hz9.frozen 0
    have q1 := hz9.frozen 1
    have q2 := hz9.frozen 2
    have q3 := hz9.frozen 3
    have q4 := hz9.frozen 4
    have q5 := hz9.frozen 5
    have q6 := hz9.frozen 6
    have q7 := hz9.frozen 7
    clear hok f9 hz9
    go_wp2_with fail
    exact bodyPost_ret (v := .tuple #[.agg (St.arr ⟨atk, acn, aBt, amt, adt, aBs, ams, ads, apr, aev, alo, ahi⟩), .int .i64 ak]) (apply_results ⟨atk, acn, aBt, amt, adt, aBs, ams, ads, apr, aev, alo, ahi⟩ ak g4 _ _ T8.out rfl rfl) rfl T9.out
  · go_wp2_with fail
    refine (shed_any (HCF.out w5 FQ.out) (HST.out w5 FQ.out) (HGV.out w5 FQ.out) ⟨8, et, tn, cl, ot, ep, fm, un, n⟩ (hften (by decide)).1 (hften (by decide)).2).mono ?_
    rintro r w9 ⟨⟨atk, acn, aBt, amt, adt, aBs, ams, ads, apr, aev, alo, ahi⟩, ak, rfl, hok, f9⟩
    clear e0 e1 e2 e3 e4 e5 e6 e7 e8 e9 s0 s1 s2 s3 s4 s5 s6 s7 x0 x1 x2 x3 x4 x5 x6 x7 x8 z0 z1 z2 z3 z4 z5 z6 z7
    have T9 := Lib.hid (HFIN.out w5 FQ.out ⟨atk, acn, aBt, amt, adt, aBs, ams, ads, apr, aev, alo, ahi⟩ ak w9 hok f9)
    have hz9 := HZF.out w5 FQ.out w9 f9
    have T8 := Lib.hid (st_fill (q := g4) (z := stZero) ⟨atk, acn, aBt, amt, adt, aBs, ams, ads, apr, aev, alo, ahi⟩ hz9)
    obtain ⟨y0, y1, y2, y3, y4, y5, y6, y7⟩ := st_cells (s := stZero) hz9
    simp only at y0 y1 y2 y3 y4 y5 y6 y7
    have q0 := hz9.frozen 0
    have q1 := hz9.frozen 1
    have q2 := hz9.frozen 2
    have q3 := hz9.frozen 3
    have q4 := hz9.frozen 4
    have q5 := hz9.frozen 5
    have q6 := hz9.frozen 6
    have q7 := hz9.frozen 7
    clear hok f9 hz9
    go_wp2_with fail
    exact bodyPost_ret (v := .tuple #[.agg (St.arr ⟨atk, acn, aBt, amt, adt, aBs, ams, ads, apr, aev, alo, ahi⟩), .int .i64 ak]) (apply_results ⟨atk, acn, aBt, amt, adt, aBs, ams, ads, apr, aev, alo, ahi⟩ ak g4 _ _ T8.out rfl rfl) rfl T9.out
  · obtain ⟨j, hj, hjl⟩ := nat_of (hfcell (by simp)).1 (hfcell (by simp)).2
    obtain ⟨bs, t, hto, hrow⟩ := (HST.out w5 FQ.out).crow hjl
    have h2 := hrow.bt
    simp only at h2
    subst h2 hj
    obtain ⟨md, rn, wa, si⟩ := t
    have hjx : (0 : Int) ≤ (j : Int) ∧ (j : Int) < (ms : Int) := by omega
    have hgb := hrow.gb
    have hb0 := hG0 bs hgb
    have hra := hrow.at_
    obtain ⟨⟨d0, d1, d2, d3⟩, hfz⟩ := hra w5 (Fr.refl _ _)
    have hm4 : g4 ≠ bs := by omega
    have hm2 : g2 ≠ bs := by omega
    have hn4 := hm4.symm
    have hn2 := hm2.symm
    have HRA := Lib.hid hra
    have HROW := Lib.hid hrow
    have HTO := Lib.hid hto
    clear hra hrow hto
    go_upto_region 27 with fail
    go_cut [115] from 106 to 115 (fun x wx => (∃ B : Bool, x = .bool B) ∧ Fr No w5 wx)
    case first =>
      obtain ⟨q0, hq0⟩ : ∃ q : Bool, (md == n) = q := ⟨_, rfl⟩
      all_goals go_region
      all_goals (try go_wp2_with fail)
      all_goals go_meet
      all_goals exact ⟨⟨_, rfl⟩, (by repeat (first | assumption | exact Fr.refl _ _ | refine Fr.alloc ?_ _ | refine Fr.drew ?_ | refine Fr.drewN ?_ _))⟩
    obtain ⟨⟨B, rfl⟩, hcf⟩ := hcut
    replace FQ := Lib.hid hcf
    clear hcf d0 d1 d2 d3 hfz
    obtain ⟨⟨d0, d1, d2, d3⟩, hfz⟩ := HRA.out wc FQ.out
    clear e0 e1 e2 e3 e4 e5 e6 e7 e8 e9 s0 s1 s2 s3 s4 s5 s6 s7 x0 x1 x2 x3 x4 x5 x6 x7 x8 z0 z1 z2 z3 z4 z5 z6 z7
    obtain ⟨⟨e0, e1, e2, e3, e4, e5, e6, e7, e8, e9⟩, ⟨s0, s1, s2, s3, s4, s5, s6, s7⟩, ⟨x0, x1, x2, x3, x4, x5, x6, x7, x8⟩, ⟨z0, z1, z2, z3, z4, z5, z6, z7⟩⟩ := HKA.out wc FQ.out
    rcases B with _ | _
    rotate_left
    · go_wp2_with fail
      refine (no_any _ _).mono ?_
      rintro e w9 ⟨rfl, f9⟩
      have hz9 := HZ.out w9 (FQ.out.transNo f9)
      have f8 := fW.transNo (FQ.out.transNo f9)
      obtain ⟨z0, z1, z2, z3, z4, z5, z6, z7⟩ := st_cells (s := stZero) hz9
      simp only at z0 z1 z2 z3 z4 z5 z6 z7
      have q0 := hz9.frozen 0
      have q1 := hz9.frozen 1
      have q2 := hz9.frozen 2
      have q3 := hz9.frozen 3
      have q4 := hz9.frozen 4
      have q5 := hz9.frozen 5
      have q6 := hz9.frozen 6
      have q7 := hz9.frozen 7
      have HZ9 := Lib.hid hz9
      have F8 := Lib.hid f8
      clear hz9 f8
      go_wp2_with fail
      exact bodyPost_ret (v := .tuple #[.agg stZero.arr, .int .i64 4]) (apply_results stZero 4 g4 _ _ (st_fill (z := stZero) stZero HZ9.out) rfl rfl) rfl (ApTo.no (by decide) (st_fill_fr stZero F8.out hgz) rfl)
    have hro9 := (HROW.out.frNo FQ.out)
    have hro9 := hro9.setA (t' := ⟨n, rn, wa, si⟩) (u := (.int .i64 n)) (a := j * 4) (j := 0) (by decide) (by omega) rfl
    have hro9 := hro9.setA (t' := ⟨n, rn, wa, et⟩) (u := (.int .i64 et)) (a := j * 4 + 3) (j := 3) (by decide) (by omega) rfl
    have hok9 := hro9.ok ⟨HTO.out.rn, HTO.out.wa⟩
    have f9 : Fr GG wc (((wc).setCell ⟨bs, j * 4, none⟩ (.int .i64 n)).setCell ⟨bs, j * 4 + 3, none⟩ (.int .i64 et)) := (((Fr.refl GG wc)).setCell (p := ⟨bs, j * 4, none⟩) (.inl hgb) _).setCell (p := ⟨bs, j * 4 + 3, none⟩) (.inl hgb) _
    have hz9 := HZF.out wc FQ.out _ f9
    have hfl := HFIN.out wc FQ.out ⟨et, cn2, Bt1, mt, dt1, some ⟨bs, 0, none⟩, ms, ds1, pr1, ev1, lo1, hi1⟩ 0 _ (fun _ => hok9) f9
    have T9 := Lib.hid hfl
    have T8 := Lib.hid (st_fill (q := g4) (z := stZero) ⟨et, cn2, Bt1, mt, dt1, some ⟨bs, 0, none⟩, ms, ds1, pr1, ev1, lo1, hi1⟩ hz9)
    clear hro9 hok9 f9 hfl hz9
    have hz9 := HZ.out wc FQ.out
    have q0 := hz9.frozen 0
    have q1 := hz9.frozen 1
    have q2 := hz9.frozen 2
    have q3 := hz9.frozen 3
    have q4 := hz9.frozen 4
    have q5 := hz9.frozen 5
    have q6 := hz9.frozen 6
    have q7 := hz9.frozen 7
    clear hz9
    go_wp2_with fail
    go_region
    go_wp2_with fail
    exact bodyPost_ret (v := .tuple #[.agg (St.arr ⟨et, cn2, Bt1, mt, dt1, some ⟨bs, 0, none⟩, ms, ds1, pr1, ev1, lo1, hi1⟩), .int .i64 0]) (apply_results ⟨et, cn2, Bt1, mt, dt1, some ⟨bs, 0, none⟩, ms, ds1, pr1, ev1, lo1, hi1⟩ 0 g4 _ _ (Blk.drewn T8.out) rfl rfl) rfl (ApTo.drew T9.out)
  · go_wp2_with fail
    refine (want_any (HCF.out w5 FQ.out w5 (Fr.refl _ _)) (HST.out w5 FQ.out) (HGV.out w5 FQ.out) ⟨10, et, tn, cl, ot, ep, fm, un, n⟩ (hfcell (by simp)).1 (hfcell (by simp)).2 (hfver (by simp)).1 (hfver (by simp)).2).mono ?_
    rintro r w9 ⟨⟨atk, acn, aBt, amt, adt, aBs, ams, ads, apr, aev, alo, ahi⟩, ak, rfl, hok, f9⟩
    clear e0 e1 e2 e3 e4 e5 e6 e7 e8 e9 s0 s1 s2 s3 s4 s5 s6 s7 x0 x1 x2 x3 x4 x5 x6 x7 x8 z0 z1 z2 z3 z4 z5 z6 z7
    have T9 := Lib.hid (HFIN.out w5 FQ.out ⟨atk, acn, aBt, amt, adt, aBs, ams, ads, apr, aev, alo, ahi⟩ ak w9 hok f9)
    have hz9 := HZF.out w5 FQ.out w9 f9
    have T8 := Lib.hid (st_fill (q := g4) (z := stZero) ⟨atk, acn, aBt, amt, adt, aBs, ams, ads, apr, aev, alo, ahi⟩ hz9)
    obtain ⟨y0, y1, y2, y3, y4, y5, y6, y7⟩ := st_cells (s := stZero) hz9
    simp only at y0 y1 y2 y3 y4 y5 y6 y7
    have q0 := hz9.frozen 0
    have q1 := hz9.frozen 1
    have q2 := hz9.frozen 2
    have q3 := hz9.frozen 3
    have q4 := hz9.frozen 4
    have q5 := hz9.frozen 5
    have q6 := hz9.frozen 6
    have q7 := hz9.frozen 7
    clear hok f9 hz9
    go_wp2_with fail
    exact bodyPost_ret (v := .tuple #[.agg (St.arr ⟨atk, acn, aBt, amt, adt, aBs, ams, ads, apr, aev, alo, ahi⟩), .int .i64 ak]) (apply_results ⟨atk, acn, aBt, amt, adt, aBs, ams, ads, apr, aev, alo, ahi⟩ ak g4 _ _ T8.out rfl rfl) rfl T9.out
  · go_wp2_with fail
    refine (runs_any (HST.out w5 FQ.out) (HGV.out w5 FQ.out) ⟨11, et, tn, cl, ot, ep, fm, un, n⟩ (hfcell (by simp)).1 (hfcell (by simp)).2 (hfver (by simp)).1 (hfver (by simp)).2).mono ?_
    rintro r w9 ⟨⟨atk, acn, aBt, amt, adt, aBs, ams, ads, apr, aev, alo, ahi⟩, ak, rfl, hok, f9⟩
    clear e0 e1 e2 e3 e4 e5 e6 e7 e8 e9 s0 s1 s2 s3 s4 s5 s6 s7 x0 x1 x2 x3 x4 x5 x6 x7 x8 z0 z1 z2 z3 z4 z5 z6 z7
    have T9 := Lib.hid (HFIN.out w5 FQ.out ⟨atk, acn, aBt, amt, adt, aBs, ams, ads, apr, aev, alo, ahi⟩ ak w9 hok f9)
    have hz9 := HZF.out w5 FQ.out w9 f9
    have T8 := Lib.hid (st_fill (q := g4) (z := stZero) ⟨atk, acn, aBt, amt, adt, aBs, ams, ads, apr, aev, alo, ahi⟩ hz9)
    obtain ⟨y0, y1, y2, y3, y4, y5, y6, y7⟩ := st_cells (s := stZero) hz9
    simp only at y0 y1 y2 y3 y4 y5 y6 y7
    have q0 := hz9.frozen 0
    have q1 := hz9.frozen 1
    have q2 := hz9.frozen 2
    have q3 := hz9.frozen 3
    have q4 := hz9.frozen 4
    have q5 := hz9.frozen 5
    have q6 := hz9.frozen 6
    have q7 := hz9.frozen 7
    clear hok f9 hz9
    go_wp2_with fail
    exact bodyPost_ret (v := .tuple #[.agg (St.arr ⟨atk, acn, aBt, amt, adt, aBs, ams, ads, apr, aev, alo, ahi⟩), .int .i64 ak]) (apply_results ⟨atk, acn, aBt, amt, adt, aBs, ams, ads, apr, aev, alo, ahi⟩ ak g4 _ _ T8.out rfl rfl) rfl T9.out
  · go_wp2_with fail
    refine (prove_any (HCF.out w5 FQ.out w5 (Fr.refl _ _)) (HST.out w5 FQ.out) (HGV.out w5 FQ.out) ⟨12, et, tn, cl, ot, ep, fm, un, n⟩ (hfver (by simp)).1 (hfver (by simp)).2).mono ?_
    rintro r w9 ⟨⟨atk, acn, aBt, amt, adt, aBs, ams, ads, apr, aev, alo, ahi⟩, ak, rfl, hok, f9⟩
    clear e0 e1 e2 e3 e4 e5 e6 e7 e8 e9 s0 s1 s2 s3 s4 s5 s6 s7 x0 x1 x2 x3 x4 x5 x6 x7 x8 z0 z1 z2 z3 z4 z5 z6 z7
    have T9 := Lib.hid (HFIN.out w5 FQ.out ⟨atk, acn, aBt, amt, adt, aBs, ams, ads, apr, aev, alo, ahi⟩ ak w9 hok f9)
    have hz9 := HZF.out w5 FQ.out w9 f9
    have T8 := Lib.hid (st_fill (q := g4) (z := stZero) ⟨atk, acn, aBt, amt, adt, aBs, ams, ads, apr, aev, alo, ahi⟩ hz9)
    obtain ⟨y0, y1, y2, y3, y4, y5, y6, y7⟩ := st_cells (s := stZero) hz9
    simp only at y0 y1 y2 y3 y4 y5 y6 y7
    have q0 := hz9.frozen 0
    have q1 := hz9.frozen 1
    have q2 := hz9.frozen 2
    have q3 := hz9.frozen 3
    have q4 := hz9.frozen 4
    have q5 := hz9.frozen 5
    have q6 := hz9.frozen 6
    have q7 := hz9.frozen 7
    clear hok f9 hz9
    go_wp2_with fail
    exact bodyPost_ret (v := .tuple #[.agg (St.arr ⟨atk, acn, aBt, amt, adt, aBs, ams, ads, apr, aev, alo, ahi⟩), .int .i64 ak]) (apply_results ⟨atk, acn, aBt, amt, adt, aBs, ams, ads, apr, aev, alo, ahi⟩ ak g4 _ _ T8.out rfl rfl) rfl T9.out
  · have hrg9 := hfreg rfl
    go_upto_region 37 with fail
    go_cut [168] from 160 to 168 (fun x wx => (∃ B : Bool, x = .bool B) ∧ Fr No w5 wx)
    case first =>
      go_region_held3 (fun V => Fr No w5 V ∧ (V.cell? ⟨g2, 0, none⟩ = some (.int .i64 et) ∧ V.cell? ⟨g2, 1, none⟩ = some (.int .i64 cn2) ∧ V.cell? ⟨g2, 2, none⟩ = some (.slice Bt1 mt dt1) ∧ V.cell? ⟨g2, 3, none⟩ = some (.slice Bs1 ms ds1) ∧ V.cell? ⟨g2, 4, none⟩ = some (.int .i64 pr1) ∧ V.cell? ⟨g2, 5, none⟩ = some (.int .i64 ev1) ∧ V.cell? ⟨g2, 6, none⟩ = some (.int .i64 lo1) ∧ V.cell? ⟨g2, 7, none⟩ = some (.int .i64 hi1)) ∧ (V.cell? ⟨g3, 0, none⟩ = some (.int .i64 13) ∧ V.cell? ⟨g3, 1, none⟩ = some (.int .i64 et) ∧ V.cell? ⟨g3, 2, none⟩ = some (.int .i64 tn) ∧ V.cell? ⟨g3, 3, none⟩ = some (.int .i64 cl) ∧ V.cell? ⟨g3, 4, none⟩ = some (.int .i64 ot) ∧ V.cell? ⟨g3, 5, none⟩ = some (.int .i64 ep) ∧ V.cell? ⟨g3, 6, none⟩ = some (.int .i64 fm) ∧ V.cell? ⟨g3, 7, none⟩ = some (.int .i64 un) ∧ V.cell? ⟨g3, 8, none⟩ = some (.int .i64 n))) (exact ⟨(by repeat (first | assumption | exact Fr.refl _ _ | refine Fr.alloc ?_ _ | refine Fr.drew ?_ | refine Fr.drewN ?_ _)), (HKA.out _ (by repeat (first | assumption | exact Fr.refl _ _ | refine Fr.alloc ?_ _ | refine Fr.drew ?_ | refine Fr.drewN ?_ _))).2.1, (HKA.out _ (by repeat (first | assumption | exact Fr.refl _ _ | refine Fr.alloc ?_ _ | refine Fr.drew ?_ | refine Fr.drewN ?_ _))).2.2.1⟩) (first
        | (go_at_call 54; refine (has_q _ _ _).mono ?_; rintro e v5 ⟨rfl, rfl⟩))
      all_goals (try go_wp2_with fail)
      all_goals go_meet
      all_goals exact ⟨⟨_, rfl⟩, (by repeat (first | assumption | exact Fr.refl _ _ | refine Fr.alloc ?_ _ | refine Fr.drew ?_ | refine Fr.drewN ?_ _))⟩
    obtain ⟨⟨B, rfl⟩, hcf⟩ := hcut
    replace FQ := Lib.hid hcf
    clear hcf
    clear e0 e1 e2 e3 e4 e5 e6 e7 e8 e9 s0 s1 s2 s3 s4 s5 s6 s7 x0 x1 x2 x3 x4 x5 x6 x7 x8 z0 z1 z2 z3 z4 z5 z6 z7
    obtain ⟨⟨e0, e1, e2, e3, e4, e5, e6, e7, e8, e9⟩, ⟨s0, s1, s2, s3, s4, s5, s6, s7⟩, ⟨x0, x1, x2, x3, x4, x5, x6, x7, x8⟩, ⟨z0, z1, z2, z3, z4, z5, z6, z7⟩⟩ := HKA.out wc FQ.out
    rcases B with _ | _
    rotate_left
    · go_wp2_with fail
      refine (no_any _ _).mono ?_
      rintro e w9 ⟨rfl, f9⟩
      have hz9 := HZ.out w9 (FQ.out.transNo f9)
      have f8 := fW.transNo (FQ.out.transNo f9)
      obtain ⟨z0, z1, z2, z3, z4, z5, z6, z7⟩ := st_cells (s := stZero) hz9
      simp only at z0 z1 z2 z3 z4 z5 z6 z7
      have q0 := hz9.frozen 0
      have q1 := hz9.frozen 1
      have q2 := hz9.frozen 2
      have q3 := hz9.frozen 3
      have q4 := hz9.frozen 4
      have q5 := hz9.frozen 5
      have q6 := hz9.frozen 6
      have q7 := hz9.frozen 7
      have HZ9 := Lib.hid hz9
      have F8 := Lib.hid f8
      clear hz9 f8
      go_wp2_with fail
      exact bodyPost_ret (v := .tuple #[.agg stZero.arr, .int .i64 4]) (apply_results stZero 4 g4 _ _ (st_fill (z := stZero) stZero HZ9.out) rfl rfl) rfl (ApTo.no (by decide) (st_fill_fr stZero F8.out hgz) rfl)
    have hp9 : ∀ xq : Int, Blk (wc.setCell ⟨g2, 5, none⟩ (.int .i64 xq)) g2 TSt (St.arr ⟨et, cn2, Bt1, mt, dt1, Bs1, ms, ds1, pr1, xq, lo1, hi1⟩) ∧ Blk (wc.setCell ⟨g2, 5, none⟩ (.int .i64 xq)) g4 TSt stZero.arr ∧ StOk (wc.setCell ⟨g2, 5, none⟩ (.int .i64 xq)) (fun i => w4.heap.size ≤ i) ⟨rg, nz, ms, mt, nv, le, bk, bz, bc, bv, cz, cc, ct, cv, At, Ar, nr, cr, Ao, no_, co, bl⟩ ⟨et, cn2, Bt1, mt, dt1, Bs1, ms, ds1, pr1, xq, lo1, hi1⟩ ∧ Fr No w (wc.setCell ⟨g2, 5, none⟩ (.int .i64 xq)) := fun xq => ⟨Blk.cv ((HSB.out _ FQ.out).set_ 5 _) rfl, (HZ.out _ FQ.out).fr (fr_set _ ⟨g2, 5, none⟩ _) hne, ((StOk.renum (HST.out _ FQ.out)).fr (fr_set _ ⟨g2, 5, none⟩ _) (fun i hi e => by have := (hG0 i hi).1; have e : i = g2 := e; omega)).mono (fun i hi => (hG0 i hi).1), (fW.transNo FQ.out).transNew (fr_set _ ⟨g2, 5, none⟩ _) (fun i hi => by have hi : i = g2 := hi; omega)⟩
    have ht9 : ∀ xq : Int, Blk (World.setCell (World.setCell (World.setCell (World.setCell (World.setCell (World.setCell (World.setCell (World.setCell (wc.setCell ⟨g2, 5, none⟩ (.int .i64 xq)) ⟨g4, 0, none⟩ (.int .i64 et)) ⟨g4, 1, none⟩ (.int .i64 cn2)) ⟨g4, 2, none⟩ (.slice Bt1 mt dt1)) ⟨g4, 3, none⟩ (.slice Bs1 ms ds1)) ⟨g4, 4, none⟩ (.int .i64 pr1)) ⟨g4, 5, none⟩ (.int .i64 xq)) ⟨g4, 6, none⟩ (.int .i64 lo1)) ⟨g4, 7, none⟩ (.int .i64 hi1)) g4 TSt (St.arr ⟨et, cn2, Bt1, mt, dt1, Bs1, ms, ds1, pr1, xq, lo1, hi1⟩) ∧ ApTo w ⟨rg, nz, ms, mt, nv, le, bk, bz, bc, bv, cz, cc, ct, cv, At, Ar, nr, cr, Ao, no_, co, bl⟩ (.returned (.tuple #[.agg (St.arr ⟨et, cn2, Bt1, mt, dt1, Bs1, ms, ds1, pr1, xq, lo1, hi1⟩), .int .i64 0])) (World.setCell (World.setCell (World.setCell (World.setCell (World.setCell (World.setCell (World.setCell (World.setCell (wc.setCell ⟨g2, 5, none⟩ (.int .i64 xq)) ⟨g4, 0, none⟩ (.int .i64 et)) ⟨g4, 1, none⟩ (.int .i64 cn2)) ⟨g4, 2, none⟩ (.slice Bt1 mt dt1)) ⟨g4, 3, none⟩ (.slice Bs1 ms ds1)) ⟨g4, 4, none⟩ (.int .i64 pr1)) ⟨g4, 5, none⟩ (.int .i64 xq)) ⟨g4, 6, none⟩ (.int .i64 lo1)) ⟨g4, 7, none⟩ (.int .i64 hi1)) := fun xq => ⟨st_fill (Z := (wc.setCell ⟨g2, 5, none⟩ (.int .i64 xq))) (q := g4) (z := stZero) ⟨et, cn2, Bt1, mt, dt1, Bs1, ms, ds1, pr1, xq, lo1, hi1⟩ (hp9 xq).2.1, ApTo.fill (w := w) (W := (wc.setCell ⟨g2, 5, none⟩ (.int .i64 xq))) (c := ⟨rg, nz, ms, mt, nv, le, bk, bz, bc, bv, cz, cc, ct, cv, At, Ar, nr, cr, Ao, no_, co, bl⟩) (s := ⟨et, cn2, Bt1, mt, dt1, Bs1, ms, ds1, pr1, xq, lo1, hi1⟩) (B := w4.heap.size) (k := 0) (q := g4) (e := .returned (.tuple #[.agg (St.arr ⟨et, cn2, Bt1, mt, dt1, Bs1, ms, ds1, pr1, xq, lo1, hi1⟩), .int .i64 0])) (fun _ => (hp9 xq).2.2.1) (hp9 xq).2.2.2 hgz hl4 rfl⟩
    clear hp9
    have hfb := (HSB.out _ FQ.out).frozen 5
    have hz9 := HZ.out _ FQ.out
    have q0 := hz9.frozen 0
    have q1 := hz9.frozen 1
    have q2 := hz9.frozen 2
    have q3 := hz9.frozen 3
    have q4 := hz9.frozen 4
    have q5 := hz9.frozen 5
    have q6 := hz9.frozen 6
    have q7 := hz9.frozen 7
    clear hz9
    have hne9 := hne.symm
    have hlt9 := (HSB.out _ FQ.out).lt
    have HT9 := Lib.hid ht9
    clear ht9
    go_wp2_with fail
    exact bodyPost_ret (apply_results _ 0 g4 _ _ (HT9.out _).1 rfl rfl) rfl (HT9.out _).2
  · go_wp2_with fail
    refine (expand_any (HCF.out w5 FQ.out w5 (Fr.refl _ _)) (HST.out w5 FQ.out) (HGV.out w5 FQ.out)).mono ?_
    rintro r w9 ⟨⟨atk, acn, aBt, amt, adt, aBs, ams, ads, apr, aev, alo, ahi⟩, ak, rfl, hok, f9⟩
    clear e0 e1 e2 e3 e4 e5 e6 e7 e8 e9 s0 s1 s2 s3 s4 s5 s6 s7 x0 x1 x2 x3 x4 x5 x6 x7 x8 z0 z1 z2 z3 z4 z5 z6 z7
    have T9 := Lib.hid (HFIN.out w5 FQ.out ⟨atk, acn, aBt, amt, adt, aBs, ams, ads, apr, aev, alo, ahi⟩ ak w9 hok f9)
    have hz9 := HZF.out w5 FQ.out w9 f9
    have T8 := Lib.hid (st_fill (q := g4) (z := stZero) ⟨atk, acn, aBt, amt, adt, aBs, ams, ads, apr, aev, alo, ahi⟩ hz9)
    obtain ⟨y0, y1, y2, y3, y4, y5, y6, y7⟩ := st_cells (s := stZero) hz9
    simp only at y0 y1 y2 y3 y4 y5 y6 y7
    have q0 := hz9.frozen 0
    have q1 := hz9.frozen 1
    have q2 := hz9.frozen 2
    have q3 := hz9.frozen 3
    have q4 := hz9.frozen 4
    have q5 := hz9.frozen 5
    have q6 := hz9.frozen 6
    have q7 := hz9.frozen 7
    clear hok f9 hz9
    go_wp2_with fail
    exact bodyPost_ret (v := .tuple #[.agg (St.arr ⟨atk, acn, aBt, amt, adt, aBs, ams, ads, apr, aev, alo, ahi⟩), .int .i64 ak]) (apply_results ⟨atk, acn, aBt, amt, adt, aBs, ams, ads, apr, aev, alo, ahi⟩ ak g4 _ _ T8.out rfl rfl) rfl T9.out
  · go_upto_region 43 with fail
    go_cut [193] from 189 to 193 (fun x wx => (∃ B : Bool, x = .bool B) ∧ Fr No w5 wx)
    case first =>
      obtain ⟨q0, hq0⟩ : ∃ q : Bool, (hi1 == lo1) = q := ⟨_, rfl⟩
      all_goals (try go_wp2_with fail)
      all_goals go_meet
      all_goals exact ⟨⟨_, rfl⟩, (by repeat (first | assumption | exact Fr.refl _ _ | refine Fr.alloc ?_ _ | refine Fr.drew ?_ | refine Fr.drewN ?_ _))⟩
    obtain ⟨⟨B, rfl⟩, hcf⟩ := hcut
    replace FQ := Lib.hid hcf
    clear hcf
    clear e0 e1 e2 e3 e4 e5 e6 e7 e8 e9 s0 s1 s2 s3 s4 s5 s6 s7 x0 x1 x2 x3 x4 x5 x6 x7 x8 z0 z1 z2 z3 z4 z5 z6 z7
    obtain ⟨⟨e0, e1, e2, e3, e4, e5, e6, e7, e8, e9⟩, ⟨s0, s1, s2, s3, s4, s5, s6, s7⟩, ⟨x0, x1, x2, x3, x4, x5, x6, x7, x8⟩, ⟨z0, z1, z2, z3, z4, z5, z6, z7⟩⟩ := HKA.out wc FQ.out
    rcases B with _ | _
    rotate_left
    · go_wp2_with fail
      refine (no_any _ _).mono ?_
      rintro e w9 ⟨rfl, f9⟩
      have hz9 := HZ.out w9 (FQ.out.transNo f9)
      have f8 := fW.transNo (FQ.out.transNo f9)
      obtain ⟨z0, z1, z2, z3, z4, z5, z6, z7⟩ := st_cells (s := stZero) hz9
      simp only at z0 z1 z2 z3 z4 z5 z6 z7
      have q0 := hz9.frozen 0
      have q1 := hz9.frozen 1
      have q2 := hz9.frozen 2
      have q3 := hz9.frozen 3
      have q4 := hz9.frozen 4
      have q5 := hz9.frozen 5
      have q6 := hz9.frozen 6
      have q7 := hz9.frozen 7
      have HZ9 := Lib.hid hz9
      have F8 := Lib.hid f8
      clear hz9 f8
      go_wp2_with fail
      exact bodyPost_ret (v := .tuple #[.agg stZero.arr, .int .i64 4]) (apply_results stZero 4 g4 _ _ (st_fill (z := stZero) stZero HZ9.out) rfl rfl) rfl (ApTo.no (by decide) (st_fill_fr stZero F8.out hgz) rfl)
    have hp9 : ∀ xq : Int, Blk (wc.setCell ⟨g2, 6, none⟩ (.int .i64 xq)) g2 TSt (St.arr ⟨et, cn2, Bt1, mt, dt1, Bs1, ms, ds1, pr1, ev1, xq, hi1⟩) ∧ Blk (wc.setCell ⟨g2, 6, none⟩ (.int .i64 xq)) g4 TSt stZero.arr ∧ StOk (wc.setCell ⟨g2, 6, none⟩ (.int .i64 xq)) (fun i => w4.heap.size ≤ i) ⟨rg, nz, ms, mt, nv, le, bk, bz, bc, bv, cz, cc, ct, cv, At, Ar, nr, cr, Ao, no_, co, bl⟩ ⟨et, cn2, Bt1, mt, dt1, Bs1, ms, ds1, pr1, ev1, xq, hi1⟩ ∧ Fr No w (wc.setCell ⟨g2, 6, none⟩ (.int .i64 xq)) := fun xq => ⟨Blk.cv ((HSB.out _ FQ.out).set_ 6 _) rfl, (HZ.out _ FQ.out).fr (fr_set _ ⟨g2, 6, none⟩ _) hne, ((StOk.renum (HST.out _ FQ.out)).fr (fr_set _ ⟨g2, 6, none⟩ _) (fun i hi e => by have := (hG0 i hi).1; have e : i = g2 := e; omega)).mono (fun i hi => (hG0 i hi).1), (fW.transNo FQ.out).transNew (fr_set _ ⟨g2, 6, none⟩ _) (fun i hi => by have hi : i = g2 := hi; omega)⟩
    have ht9 : ∀ xq : Int, Blk (World.setCell (World.setCell (World.setCell (World.setCell (World.setCell (World.setCell (World.setCell (World.setCell (wc.setCell ⟨g2, 6, none⟩ (.int .i64 xq)) ⟨g4, 0, none⟩ (.int .i64 et)) ⟨g4, 1, none⟩ (.int .i64 cn2)) ⟨g4, 2, none⟩ (.slice Bt1 mt dt1)) ⟨g4, 3, none⟩ (.slice Bs1 ms ds1)) ⟨g4, 4, none⟩ (.int .i64 pr1)) ⟨g4, 5, none⟩ (.int .i64 ev1)) ⟨g4, 6, none⟩ (.int .i64 xq)) ⟨g4, 7, none⟩ (.int .i64 hi1)) g4 TSt (St.arr ⟨et, cn2, Bt1, mt, dt1, Bs1, ms, ds1, pr1, ev1, xq, hi1⟩) ∧ ApTo w ⟨rg, nz, ms, mt, nv, le, bk, bz, bc, bv, cz, cc, ct, cv, At, Ar, nr, cr, Ao, no_, co, bl⟩ (.returned (.tuple #[.agg (St.arr ⟨et, cn2, Bt1, mt, dt1, Bs1, ms, ds1, pr1, ev1, xq, hi1⟩), .int .i64 0])) (World.setCell (World.setCell (World.setCell (World.setCell (World.setCell (World.setCell (World.setCell (World.setCell (wc.setCell ⟨g2, 6, none⟩ (.int .i64 xq)) ⟨g4, 0, none⟩ (.int .i64 et)) ⟨g4, 1, none⟩ (.int .i64 cn2)) ⟨g4, 2, none⟩ (.slice Bt1 mt dt1)) ⟨g4, 3, none⟩ (.slice Bs1 ms ds1)) ⟨g4, 4, none⟩ (.int .i64 pr1)) ⟨g4, 5, none⟩ (.int .i64 ev1)) ⟨g4, 6, none⟩ (.int .i64 xq)) ⟨g4, 7, none⟩ (.int .i64 hi1)) := fun xq => ⟨st_fill (Z := (wc.setCell ⟨g2, 6, none⟩ (.int .i64 xq))) (q := g4) (z := stZero) ⟨et, cn2, Bt1, mt, dt1, Bs1, ms, ds1, pr1, ev1, xq, hi1⟩ (hp9 xq).2.1, ApTo.fill (w := w) (W := (wc.setCell ⟨g2, 6, none⟩ (.int .i64 xq))) (c := ⟨rg, nz, ms, mt, nv, le, bk, bz, bc, bv, cz, cc, ct, cv, At, Ar, nr, cr, Ao, no_, co, bl⟩) (s := ⟨et, cn2, Bt1, mt, dt1, Bs1, ms, ds1, pr1, ev1, xq, hi1⟩) (B := w4.heap.size) (k := 0) (q := g4) (e := .returned (.tuple #[.agg (St.arr ⟨et, cn2, Bt1, mt, dt1, Bs1, ms, ds1, pr1, ev1, xq, hi1⟩), .int .i64 0])) (fun _ => (hp9 xq).2.2.1) (hp9 xq).2.2.2 hgz hl4 rfl⟩
    clear hp9
    have hfb := (HSB.out _ FQ.out).frozen 6
    have hz9 := HZ.out _ FQ.out
    have q0 := hz9.frozen 0
    have q1 := hz9.frozen 1
    have q2 := hz9.frozen 2
    have q3 := hz9.frozen 3
    have q4 := hz9.frozen 4
    have q5 := hz9.frozen 5
    have q6 := hz9.frozen 6
    have q7 := hz9.frozen 7
    clear hz9
    have hne9 := hne.symm
    have hlt9 := (HSB.out _ FQ.out).lt
    have HT9 := Lib.hid ht9
    clear ht9
    go_wp2_with fail
    exact bodyPost_ret (apply_results _ 0 g4 _ _ (HT9.out _).1 rfl rfl) rfl (HT9.out _).2
  · have hz9 := HZ.out w5 FQ.out
    clear z0 z1 z2 z3 z4 z5 z6 z7
    have T9 := Lib.hid (HFIN.out w5 FQ.out ⟨et, cn2, Bt1, mt, dt1, Bs1, ms, ds1, pr1, ev1, lo1, hi1⟩ 0 w5 (fun _ => HST.out w5 FQ.out) (Fr.refl _ _))
    have T8 := Lib.hid (st_fill (q := g4) (z := stZero) ⟨et, cn2, Bt1, mt, dt1, Bs1, ms, ds1, pr1, ev1, lo1, hi1⟩ hz9)
    obtain ⟨z0, z1, z2, z3, z4, z5, z6, z7⟩ := st_cells (s := stZero) hz9
    simp only at z0 z1 z2 z3 z4 z5 z6 z7
    have q0 := hz9.frozen 0
    have q1 := hz9.frozen 1
    have q2 := hz9.frozen 2
    have q3 := hz9.frozen 3
    have q4 := hz9.frozen 4
    have q5 := hz9.frozen 5
    have q6 := hz9.frozen 6
    have q7 := hz9.frozen 7
    clear hz9
    go_wp2_with fail
    exact bodyPost_ret (v := .tuple #[.agg (St.arr ⟨et, cn2, Bt1, mt, dt1, Bs1, ms, ds1, pr1, ev1, lo1, hi1⟩), .int .i64 0]) (apply_results ⟨et, cn2, Bt1, mt, dt1, Bs1, ms, ds1, pr1, ev1, lo1, hi1⟩ 0 g4 _ _ T8.out rfl rfl) rfl T9.out
end Go.Proofs.YtanhbebikcoliaaDoor
