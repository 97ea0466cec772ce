/-
  Several texts in one: Val, Ev.
-/
import Derived.Test.YtanhbebikcoliaaDoorG7
import Derived.Test.YtanhbebikcoliaaDoorG0
import Derived.Test.YtanhbebikcoliaaDoorG4
import Derived.Test.YtanhbebikcoliaaDoorEntF
/- The reference's Valid. -/
namespace Go.Proofs.YtanhbebikcoliaaDoor
open Go.ChangeShapes Go.WideShapes Go.ChangeAt Go.RowKit
set_option linter.unusedVariables false
set_option maxRecDepth 100000 in
set_option maxHeartbeats 2000000 in
theorem rvalid_any {w : World} {c : Cf} (e : En) (hnt : c.nt ≤ 16) (hnc : c.nc ≤ 16) (hrg : c.rg ≤ 3) (hnv : c.nv ≤ 16) :
    Calls Tryd.prog 16 #[.agg c.arr, e.v] w fun r w' => r = .returned (.bool (fitsB e c.nt c.nc c.rg c.nv)) ∧ Fr No w w' := by
  obtain ⟨rg, nz, nc, nt, nv, le, bk, bz, bc, bv, cz, cc, ct, cv, At, Ar, nr, cr, Ao, no_, co, bl⟩ := c
  simp only at *
  have HR := fun W => right_any e nt nc rg nv W (by omega) (by omega) (by omega) (by omega) (by omega) (by omega) (by omega) (by omega)
  rw [fitsB_eq]
  revert HR
  generalize rightB e nt nc rg nv = q
  intro hr
  obtain ⟨kd, et, tn, cl, ot, ep, fm, un, n⟩ := e
  unfold En.v at *
  obtain ⟨w1, hw1⟩ : ∃ w1, w1 = w.alloc (.cells #[.int .i64 (rg : Int), .slice (some ⟨bz, 0, none⟩) nz cz, .slice (some ⟨bc, 0, none⟩) nc cc, .slice At nt ct, .slice (some ⟨bv, 0, none⟩) nv cv, .slice Ar nr cr, .slice Ao no_ co, .int .i64 bl, .int .i64 (le : Int), .int .i64 (bk : Int)] TCf) := ⟨_, rfl⟩
  obtain ⟨g1, hg1⟩ : ∃ g1, g1 = w.heap.size := ⟨_, rfl⟩
  have hb1 : Blk w1 g1 TCf #[.int .i64 (rg : Int), .slice (some ⟨bz, 0, none⟩) nz cz, .slice (some ⟨bc, 0, none⟩) nc cc, .slice At nt ct, .slice (some ⟨bv, 0, none⟩) nv cv, .slice Ar nr cr, .slice Ao no_ co, .int .i64 bl, .int .i64 (le : Int), .int .i64 (bk : Int)] := by rw [hw1, hg1]; exact Blk.new _ _ _
  have f1 : Fr No w w1 := by rw [hw1]; exact fr_alloc _ _
  have hs1 : w1.heap.size = g1 + 1 := by rw [hw1, hg1]; simp
  obtain ⟨w2, hw2⟩ : ∃ w2, w2 = w1.alloc (.cells #[.int .i64 kd, .int .i64 et, .int .i64 tn, .int .i64 cl, .int .i64 ot, .int .i64 ep, .int .i64 fm, .int .i64 un, .int .i64 n] TEm) := ⟨_, rfl⟩
  obtain ⟨g2, hg2⟩ : ∃ g2, g2 = w1.heap.size := ⟨_, rfl⟩
  have hb2 : Blk w2 g2 TEm #[.int .i64 kd, .int .i64 et, .int .i64 tn, .int .i64 cl, .int .i64 ot, .int .i64 ep, .int .i64 fm, .int .i64 un, .int .i64 n] := by rw [hw2, hg2]; exact Blk.new _ _ _
  have f2 : Fr No w1 w2 := by rw [hw2]; exact fr_alloc _ _
  have hs2 : w2.heap.size = g2 + 1 := by rw [hw2, hg2]; simp
  have hB1 : Blk w2 g1 TCf #[.int .i64 (rg : Int), .slice (some ⟨bz, 0, none⟩) nz cz, .slice (some ⟨bc, 0, none⟩) nc cc, .slice At nt ct, .slice (some ⟨bv, 0, none⟩) nv cv, .slice Ar nr cr, .slice Ao no_ co, .int .i64 bl, .int .i64 (le : Int), .int .i64 (bk : Int)] := hb1.fr ((Fr.refl No _).transNo f2) (fun h => h)
  have hB2 : Blk w2 g2 TEm #[.int .i64 kd, .int .i64 et, .int .i64 tn, .int .i64 cl, .int .i64 ot, .int .i64 ep, .int .i64 fm, .int .i64 un, .int .i64 n] := hb2.fr (Fr.refl No _) (fun h => h)
  have fW : Fr No w w2 := ((Fr.refl No w).transNo f1).transNo f2
  have he2 : g2 = g1 + 1 := by rw [hg2, hs1]
  have hka : ∀ V, Fr No w2 V → (V.cell? ⟨g1, 0, none⟩ = some (.int .i64 (rg : Int)) ∧ V.cell? ⟨g1, 1, none⟩ = some (.slice (some ⟨bz, 0, none⟩) nz cz) ∧ V.cell? ⟨g1, 2, none⟩ = some (.slice (some ⟨bc, 0, none⟩) nc cc) ∧ V.cell? ⟨g1, 3, none⟩ = some (.slice At nt ct) ∧ V.cell? ⟨g1, 4, none⟩ = some (.slice (some ⟨bv, 0, none⟩) nv cv) ∧ V.cell? ⟨g1, 5, none⟩ = some (.slice Ar nr cr) ∧ V.cell? ⟨g1, 6, none⟩ = some (.slice Ao no_ co) ∧ V.cell? ⟨g1, 7, none⟩ = some (.int .i64 bl) ∧ V.cell? ⟨g1, 8, none⟩ = some (.int .i64 (le : Int)) ∧ V.cell? ⟨g1, 9, none⟩ = some (.int .i64 (bk : Int))) ∧ (V.cell? ⟨g2, 0, none⟩ = some (.int .i64 kd) ∧ V.cell? ⟨g2, 1, none⟩ = some (.int .i64 et) ∧ V.cell? ⟨g2, 2, none⟩ = some (.int .i64 tn) ∧ V.cell? ⟨g2, 3, none⟩ = some (.int .i64 cl) ∧ V.cell? ⟨g2, 4, none⟩ = some (.int .i64 ot) ∧ V.cell? ⟨g2, 5, none⟩ = some (.int .i64 ep) ∧ V.cell? ⟨g2, 6, none⟩ = some (.int .i64 fm) ∧ V.cell? ⟨g2, 7, none⟩ = some (.int .i64 un) ∧ V.cell? ⟨g2, 8, none⟩ = some (.int .i64 n)) := fun V hf => ⟨(let k := hB1.fr hf (fun h => h); ⟨k.cell 0, k.cell 1, k.cell 2, k.cell 3, k.cell 4, k.cell 5, k.cell 6, k.cell 7, k.cell 8, k.cell 9⟩), (let k := hB2.fr hf (fun h => h); ⟨k.cell 0, k.cell 1, k.cell 2, k.cell 3, k.cell 4, k.cell 5, k.cell 6, k.cell 7, k.cell 8⟩)⟩
  have hW : w2 = (w.alloc (.cells #[.int .i64 (rg : Int), .slice (some ⟨bz, 0, none⟩) nz cz, .slice (some ⟨bc, 0, none⟩) nc cc, .slice At nt ct, .slice (some ⟨bv, 0, none⟩) nv cv, .slice Ar nr cr, .slice Ao no_ co, .int .i64 bl, .int .i64 (le : Int), .int .i64 (bk : Int)] TCf)).alloc (.cells #[.int .i64 kd, .int .i64 et, .int .i64 tn, .int .i64 cl, .int .i64 ot, .int .i64 ep, .int .i64 fm, .int .i64 un, .int .i64 n] TEm) := by rw [hw2, hw1]
  have hl1 : g1 < w2.heap.size := hB1.lt
  have hl2 : g2 < w2.heap.size := hB2.lt
  clear hw1 hb1 hs1 hw2 hb2 hs2
  have HG1 := Lib.hid hg1
  have HG2 := Lib.hid hg2
  have HE2 := Lib.hid he2
  clear hg1 hg2 he2
  have HR := Lib.hid hr
  have HKA := Lib.hid hka
  have HW := Lib.hid hW
  clear hr hka hW
  go_enter Tryd.func16, Tryd.ntmps16
  go_upto_region 1 with fail
  rw [← HW.out]
  try rw [← show g2 = w.heap.size + 1 from by rw [HE2.out, HG1.out]]
  try rw [← HG1.out]
  obtain ⟨⟨e0, e1, e2, e3, e4, e5, e6, e7, e8, e9⟩, ⟨x0, x1, x2, x3, x4, x5, x6, x7, x8⟩⟩ := HKA.out w2 (Fr.refl _ _)
  have m1 : decide ((nt : Int) < 32) = true := decide_eq_true (by omega)
  go_wp2_with fail
  refine (HR.out _).mono ?_
  rintro e w5 ⟨rfl, f5⟩
  have f9 := Lib.hid (fW.transNo f5)
  clear f5
  go_wp2_with fail
  go_ret
  exact ⟨ret_bool rfl, f9.out⟩
end Go.Proofs.YtanhbebikcoliaaDoor
/- The program's Valid. -/
namespace Go.Proofs.YtanhbebikcoliaaDoor
open Go.ChangeShapes Go.WideShapes Go.ChangeAt Go.RowKit
set_option linter.unusedVariables false
theorem inB_mono {lo hi lo' hi' x : Int} (h : inB lo hi x = true) (h1 : lo' ≤ lo) (h2 : hi ≤ hi') : inB lo' hi' x = true := by
  simp only [inB, Bool.and_eq_true, decide_eq_true_eq] at h ⊢
  omega
set_option maxRecDepth 100000 in
set_option maxHeartbeats 2000000 in
theorem valid_any {w : World} {c : Cf} (e : En) (hnt : c.nt ≤ 16) (hnc : c.nc ≤ 16) (hrg : c.rg ≤ 3) (hnv : c.nv ≤ 16) :
    Calls Tryd.prog 15 #[.agg c.arr, e.v] w fun r w' => r = .returned (.bool (shapeB e && fitsB e c.nt c.nc c.rg c.nv)) ∧ Fr No w w' := by
  obtain ⟨rg, nz, nc, nt, nv, le, bk, bz, bc, bv, cz, cc, ct, cv, At, Ar, nr, cr, Ao, no_, co, bl⟩ := c
  simp only at *
  have HR := fun W => fits_any e nt nc rg nv W (by omega) (by omega) (by omega) (by omega) (by omega) (by omega) (by omega) (by omega)
  have HS := fun W => shape_any e W
  revert HR HS
  generalize fitsB e nt nc rg nv = q
  generalize shapeB e = p
  intro hr hs
  obtain ⟨kd, et, tn, cl, ot, ep, fm, un, n⟩ := e
  unfold En.v at *
  obtain ⟨w1, hw1⟩ : ∃ w1, w1 = w.alloc (.cells #[.int .i64 (rg : Int), .slice (some ⟨bz, 0, none⟩) nz cz, .slice (some ⟨bc, 0, none⟩) nc cc, .slice At nt ct, .slice (some ⟨bv, 0, none⟩) nv cv, .slice Ar nr cr, .slice Ao no_ co, .int .i64 bl, .int .i64 (le : Int), .int .i64 (bk : Int)] TCf) := ⟨_, rfl⟩
  obtain ⟨g1, hg1⟩ : ∃ g1, g1 = w.heap.size := ⟨_, rfl⟩
  have hb1 : Blk w1 g1 TCf #[.int .i64 (rg : Int), .slice (some ⟨bz, 0, none⟩) nz cz, .slice (some ⟨bc, 0, none⟩) nc cc, .slice At nt ct, .slice (some ⟨bv, 0, none⟩) nv cv, .slice Ar nr cr, .slice Ao no_ co, .int .i64 bl, .int .i64 (le : Int), .int .i64 (bk : Int)] := by rw [hw1, hg1]; exact Blk.new _ _ _
  have f1 : Fr No w w1 := by rw [hw1]; exact fr_alloc _ _
  have hs1 : w1.heap.size = g1 + 1 := by rw [hw1, hg1]; simp
  obtain ⟨w2, hw2⟩ : ∃ w2, w2 = w1.alloc (.cells #[.int .i64 kd, .int .i64 et, .int .i64 tn, .int .i64 cl, .int .i64 ot, .int .i64 ep, .int .i64 fm, .int .i64 un, .int .i64 n] TEm) := ⟨_, rfl⟩
  obtain ⟨g2, hg2⟩ : ∃ g2, g2 = w1.heap.size := ⟨_, rfl⟩
  have hb2 : Blk w2 g2 TEm #[.int .i64 kd, .int .i64 et, .int .i64 tn, .int .i64 cl, .int .i64 ot, .int .i64 ep, .int .i64 fm, .int .i64 un, .int .i64 n] := by rw [hw2, hg2]; exact Blk.new _ _ _
  have f2 : Fr No w1 w2 := by rw [hw2]; exact fr_alloc _ _
  have hs2 : w2.heap.size = g2 + 1 := by rw [hw2, hg2]; simp
  have hB1 : Blk w2 g1 TCf #[.int .i64 (rg : Int), .slice (some ⟨bz, 0, none⟩) nz cz, .slice (some ⟨bc, 0, none⟩) nc cc, .slice At nt ct, .slice (some ⟨bv, 0, none⟩) nv cv, .slice Ar nr cr, .slice Ao no_ co, .int .i64 bl, .int .i64 (le : Int), .int .i64 (bk : Int)] := hb1.fr ((Fr.refl No _).transNo f2) (fun h => h)
  have hB2 : Blk w2 g2 TEm #[.int .i64 kd, .int .i64 et, .int .i64 tn, .int .i64 cl, .int .i64 ot, .int .i64 ep, .int .i64 fm, .int .i64 un, .int .i64 n] := hb2.fr (Fr.refl No _) (fun h => h)
  have fW : Fr No w w2 := ((Fr.refl No w).transNo f1).transNo f2
  have he2 : g2 = g1 + 1 := by rw [hg2, hs1]
  have hka : ∀ V, Fr No w2 V → (V.cell? ⟨g1, 0, none⟩ = some (.int .i64 (rg : Int)) ∧ V.cell? ⟨g1, 1, none⟩ = some (.slice (some ⟨bz, 0, none⟩) nz cz) ∧ V.cell? ⟨g1, 2, none⟩ = some (.slice (some ⟨bc, 0, none⟩) nc cc) ∧ V.cell? ⟨g1, 3, none⟩ = some (.slice At nt ct) ∧ V.cell? ⟨g1, 4, none⟩ = some (.slice (some ⟨bv, 0, none⟩) nv cv) ∧ V.cell? ⟨g1, 5, none⟩ = some (.slice Ar nr cr) ∧ V.cell? ⟨g1, 6, none⟩ = some (.slice Ao no_ co) ∧ V.cell? ⟨g1, 7, none⟩ = some (.int .i64 bl) ∧ V.cell? ⟨g1, 8, none⟩ = some (.int .i64 (le : Int)) ∧ V.cell? ⟨g1, 9, none⟩ = some (.int .i64 (bk : Int))) ∧ (V.cell? ⟨g2, 0, none⟩ = some (.int .i64 kd) ∧ V.cell? ⟨g2, 1, none⟩ = some (.int .i64 et) ∧ V.cell? ⟨g2, 2, none⟩ = some (.int .i64 tn) ∧ V.cell? ⟨g2, 3, none⟩ = some (.int .i64 cl) ∧ V.cell? ⟨g2, 4, none⟩ = some (.int .i64 ot) ∧ V.cell? ⟨g2, 5, none⟩ = some (.int .i64 ep) ∧ V.cell? ⟨g2, 6, none⟩ = some (.int .i64 fm) ∧ V.cell? ⟨g2, 7, none⟩ = some (.int .i64 un) ∧ V.cell? ⟨g2, 8, none⟩ = some (.int .i64 n)) := fun V hf => ⟨(let k := hB1.fr hf (fun h => h); ⟨k.cell 0, k.cell 1, k.cell 2, k.cell 3, k.cell 4, k.cell 5, k.cell 6, k.cell 7, k.cell 8, k.cell 9⟩), (let k := hB2.fr hf (fun h => h); ⟨k.cell 0, k.cell 1, k.cell 2, k.cell 3, k.cell 4, k.cell 5, k.cell 6, k.cell 7, k.cell 8⟩)⟩
  have hW : w2 = (w.alloc (.cells #[.int .i64 (rg : Int), .slice (some ⟨bz, 0, none⟩) nz cz, .slice (some ⟨bc, 0, none⟩) nc cc, .slice At nt ct, .slice (some ⟨bv, 0, none⟩) nv cv, .slice Ar nr cr, .slice Ao no_ co, .int .i64 bl, .int .i64 (le : Int), .int .i64 (bk : Int)] TCf)).alloc (.cells #[.int .i64 kd, .int .i64 et, .int .i64 tn, .int .i64 cl, .int .i64 ot, .int .i64 ep, .int .i64 fm, .int .i64 un, .int .i64 n] TEm) := by rw [hw2, hw1]
  have hl1 : g1 < w2.heap.size := hB1.lt
  have hl2 : g2 < w2.heap.size := hB2.lt
  clear hw1 hb1 hs1 hw2 hb2 hs2
  have HG1 := Lib.hid hg1
  have HG2 := Lib.hid hg2
  have HE2 := Lib.hid he2
  clear hg1 hg2 he2
  have HR := Lib.hid hr
  have HS := Lib.hid hs
  have HKA := Lib.hid hka
  have HW := Lib.hid hW
  clear hr hs hka hW
  go_enter Tryd.func15, Tryd.ntmps15
  go_upto_region 1 with fail
  rw [← HW.out]
  try rw [← show g2 = w.heap.size + 1 from by rw [HE2.out, HG1.out]]
  try rw [← HG1.out]
  obtain ⟨⟨e0, e1, e2, e3, e4, e5, e6, e7, e8, e9⟩, ⟨x0, x1, x2, x3, x4, x5, x6, x7, x8⟩⟩ := HKA.out w2 (Fr.refl _ _)
  go_wp2_with fail
  refine (HS.out _).mono ?_
  rintro r v5 ⟨rfl, f5⟩
  have Q5 := Lib.hid f5
  obtain ⟨⟨y0, y1, y2, y3, y4, y5, y6, y7, y8, y9⟩, ⟨z0, z1, z2, z3, z4, z5, z6, z7, z8⟩⟩ := HKA.out _ f5
  clear f5
  cases p
  · go_wp2_with fail
    go_ret
    exact ⟨ret_bool rfl, fW.transNo Q5.out⟩
  · go_wp2_with fail
    refine (HR.out _).mono ?_
    rintro r v6 ⟨rfl, f6⟩
    have Q6 := Lib.hid f6
    clear f6
    go_wp2_with fail
    go_ret
    exact ⟨ret_bool rfl, (fW.transNo Q5.out).transNo Q6.out⟩
end Go.Proofs.YtanhbebikcoliaaDoor
