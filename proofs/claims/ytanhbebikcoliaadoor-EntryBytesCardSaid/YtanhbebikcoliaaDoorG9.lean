/-
  Several texts in one: FixB, FixC.
-/
import Derived.Test.YtanhbebikcoliaaDoorG8
/- Calls that only read: their answers, fixed ahead (2). -/
namespace Go.Proofs.YtanhbebikcoliaaDoor
open Go.ChangeShapes Go.WideShapes Go.ChangeAt Go.RowKit
set_option linter.unusedVariables false
set_option maxRecDepth 100000 in
set_option maxHeartbeats 4000000 in
theorem may_fix {w : World} {c : Cf} (h : CfOk w c) (t i : Int) : ∃ b : Bool, ∀ V, Fr No w V → Calls Tryd.prog 55 #[.agg c.arr, .int .i64 t, .int .i64 i] V (AnsB V b) := by
  obtain ⟨x, -, -, hx⟩ := regionOf_fix h i
  have hten := fun i (hi : i < c.nt) => h.tenR hi
  by_cases h1 : 0 ≤ t
  · have b1 : decide (0 ≤ t) = true := decide_eq_true h1
    by_cases h2 : t < (c.nt : Int)
    · obtain ⟨k, rfl, hk⟩ := nat_of h1 h2
      obtain ⟨bt, a, b, p, l, d, g0, n, hAt, hbt, hrow⟩ := hten k hk
      refine ⟨hasV d x, fun V hV => ?_⟩
      have hR := fun W (hf : Fr No V W) => hx W (hV.transNo hf)
      have hk4 := fun W (hf : Fr No V W) => (hrow W (hV.transNo hf)).2.2.2.2.1
      have hH := has_q
      obtain ⟨rg, nz, nc, nt, nv, le, bk, bz, bc, bv, cz, cc, ct, cv, At, Ar, nr, cr, Ao, no_, co, bl⟩ := c
      simp only at *
      subst hAt
      have b2 : decide ((k : Int) < (nt : Int)) = true := decide_eq_true h2
      have hix : (0 : Int) ≤ (k : Int) ∧ (k : Int) < (nt : Int) := by omega
      generalize hq : hasV d x = q
      clear hten hrow hx h h1 h2
      obtain ⟨w1, hw1⟩ : ∃ w1, w1 = V.alloc (.cells #[.int .i64 (rg : Int), .slice (some ⟨bz, 0, none⟩) nz cz, .slice (some ⟨bc, 0, none⟩) nc cc, .slice (some ⟨bt, 0, none⟩) nt ct, .slice (some ⟨bv, 0, none⟩) nv cv, .slice Ar nr cr, .slice Ao no_ co, .int .i64 bl, .int .i64 (le : Int), .int .i64 (bk : Int)] TCf) := ⟨_, rfl⟩
      obtain ⟨g1, hg1⟩ : ∃ g1, g1 = V.heap.size := ⟨_, rfl⟩
      have hb1 : Blk w1 g1 TCf #[.int .i64 (rg : Int), .slice (some ⟨bz, 0, none⟩) nz cz, .slice (some ⟨bc, 0, none⟩) nc cc, .slice (some ⟨bt, 0, none⟩) nt ct, .slice (some ⟨bv, 0, none⟩) nv cv, .slice Ar nr cr, .slice Ao no_ co, .int .i64 bl, .int .i64 (le : Int), .int .i64 (bk : Int)] := by rw [hw1, hg1]; exact Blk.new _ _ _
      have f1 : Fr No V w1 := by rw [hw1]; exact fr_alloc _ _
      have hs1 : w1.heap.size = g1 + 1 := by rw [hw1, hg1]; simp
      have hB1 : Blk w1 g1 TCf #[.int .i64 (rg : Int), .slice (some ⟨bz, 0, none⟩) nz cz, .slice (some ⟨bc, 0, none⟩) nc cc, .slice (some ⟨bt, 0, none⟩) nt ct, .slice (some ⟨bv, 0, none⟩) nv cv, .slice Ar nr cr, .slice Ao no_ co, .int .i64 bl, .int .i64 (le : Int), .int .i64 (bk : Int)] := hb1.fr (Fr.refl No _) (fun h => h)
      have fW : Fr No V w1 := (Fr.refl No V).transNo f1
      have hka : ∀ V, Fr No w1 V → (V.cell? ⟨g1, 0, none⟩ = some (.int .i64 (rg : Int)) ∧ V.cell? ⟨g1, 1, none⟩ = some (.slice (some ⟨bz, 0, none⟩) nz cz) ∧ V.cell? ⟨g1, 2, none⟩ = some (.slice (some ⟨bc, 0, none⟩) nc cc) ∧ V.cell? ⟨g1, 3, none⟩ = some (.slice (some ⟨bt, 0, none⟩) nt ct) ∧ V.cell? ⟨g1, 4, none⟩ = some (.slice (some ⟨bv, 0, none⟩) nv cv) ∧ V.cell? ⟨g1, 5, none⟩ = some (.slice Ar nr cr) ∧ V.cell? ⟨g1, 6, none⟩ = some (.slice Ao no_ co) ∧ V.cell? ⟨g1, 7, none⟩ = some (.int .i64 bl) ∧ V.cell? ⟨g1, 8, none⟩ = some (.int .i64 (le : Int)) ∧ V.cell? ⟨g1, 9, none⟩ = some (.int .i64 (bk : Int))) := fun V hf => (let k := hB1.fr hf (fun h => h); ⟨k.cell 0, k.cell 1, k.cell 2, k.cell 3, k.cell 4, k.cell 5, k.cell 6, k.cell 7, k.cell 8, k.cell 9⟩)
      have hW : w1 = V.alloc (.cells #[.int .i64 (rg : Int), .slice (some ⟨bz, 0, none⟩) nz cz, .slice (some ⟨bc, 0, none⟩) nc cc, .slice (some ⟨bt, 0, none⟩) nt ct, .slice (some ⟨bv, 0, none⟩) nv cv, .slice Ar nr cr, .slice Ao no_ co, .int .i64 bl, .int .i64 (le : Int), .int .i64 (bk : Int)] TCf) := by rw [hw1]
      have hl1 : g1 < w1.heap.size := hB1.lt
      clear hw1 hb1 hs1
      have HG1 := Lib.hid hg1
      clear hg1
      have HR := Lib.hid hR
      have HH := Lib.hid hH
      have HKA := Lib.hid hka
      have HW := Lib.hid hW
      have HK4 := Lib.hid hk4
      have HQ := Lib.hid hq
      clear hR hH hka hW hk4 hq
      go_enter Tryd.func55, Tryd.ntmps55
      go_upto_region 1 with fail
      rw [← HW.out]
      try rw [← HG1.out]
      obtain ⟨e0, e1, e2, e3, e4, e5, e6, e7, e8, e9⟩ := HKA.out w1 (Fr.refl _ _)
      have e10 := HK4.out w1 fW
      go_region_held3 (fun U => Fr No w1 U ∧ U.cell? ⟨bt, k * 7 + 4, none⟩ = some (.int .i64 d) ∧ U.cell? ⟨g1, 0, none⟩ = some (.int .i64 (rg : Int)) ∧ U.cell? ⟨g1, 1, none⟩ = some (.slice (some ⟨bz, 0, none⟩) nz cz) ∧ U.cell? ⟨g1, 2, none⟩ = some (.slice (some ⟨bc, 0, none⟩) nc cc) ∧ U.cell? ⟨g1, 3, none⟩ = some (.slice (some ⟨bt, 0, none⟩) nt ct) ∧ U.cell? ⟨g1, 4, none⟩ = some (.slice (some ⟨bv, 0, none⟩) nv cv) ∧ U.cell? ⟨g1, 5, none⟩ = some (.slice Ar nr cr) ∧ U.cell? ⟨g1, 6, none⟩ = some (.slice Ao no_ co) ∧ U.cell? ⟨g1, 7, none⟩ = some (.int .i64 bl) ∧ U.cell? ⟨g1, 8, none⟩ = some (.int .i64 (le : Int)) ∧ U.cell? ⟨g1, 9, none⟩ = some (.int .i64 (bk : Int))) (exact ⟨(by repeat (first | assumption | exact Fr.refl _ _ | refine Fr.alloc ?_ _ | refine Fr.drew ?_ | refine Fr.drewN ?_ _)), HK4.out _ (fW.transNo (by repeat (first | assumption | exact Fr.refl _ _ | refine Fr.alloc ?_ _ | refine Fr.drew ?_ | refine Fr.drewN ?_ _))), HKA.out _ (by repeat (first | assumption | exact Fr.refl _ _ | refine Fr.alloc ?_ _ | refine Fr.drew ?_ | refine Fr.drewN ?_ _))⟩) (first
        | (go_at_call 63; refine (HR.out _ (fW.transNo (by repeat (first | assumption | exact Fr.refl _ _ | refine Fr.alloc ?_ _ | refine Fr.drew ?_ | refine Fr.drewN ?_ _)))).mono ?_; rintro e w5 ⟨rfl, f5⟩; have Q5 : Fr No w1 w5 := Fr.transNo (by repeat (first | assumption | exact Fr.refl _ _ | refine Fr.alloc ?_ _ | refine Fr.drew ?_ | refine Fr.drewN ?_ _)) f5; clear f5)
        | (go_at_call 54; refine (HH.out _ _ _).mono ?_; rintro e w6 ⟨rfl, rfl⟩; rw [HQ.out]))
      all_goals go_wp2_with fail
      all_goals (go_ret; exact ⟨rfl, fW.transNo (by repeat (first | assumption | exact Fr.refl _ _ | refine Fr.alloc ?_ _ | refine Fr.drew ?_ | refine Fr.drewN ?_ _))⟩)
    · refine ⟨false, fun V hV => ?_⟩
      obtain ⟨rg, nz, nc, nt, nv, le, bk, bz, bc, bv, cz, cc, ct, cv, At, Ar, nr, cr, Ao, no_, co, bl⟩ := c
      simp only at *
      have b2 : decide (t < (nt : Int)) = false := decide_eq_false h2
      clear hten hx h
      obtain ⟨w1, hw1⟩ : ∃ w1, w1 = V.alloc (.cells #[.int .i64 (rg : Int), .slice (some ⟨bz, 0, none⟩) nz cz, .slice (some ⟨bc, 0, none⟩) nc cc, .slice At nt ct, .slice (some ⟨bv, 0, none⟩) nv cv, .slice Ar nr cr, .slice Ao no_ co, .int .i64 bl, .int .i64 (le : Int), .int .i64 (bk : Int)] TCf) := ⟨_, rfl⟩
      obtain ⟨g1, hg1⟩ : ∃ g1, g1 = V.heap.size := ⟨_, rfl⟩
      have hb1 : Blk w1 g1 TCf #[.int .i64 (rg : Int), .slice (some ⟨bz, 0, none⟩) nz cz, .slice (some ⟨bc, 0, none⟩) nc cc, .slice At nt ct, .slice (some ⟨bv, 0, none⟩) nv cv, .slice Ar nr cr, .slice Ao no_ co, .int .i64 bl, .int .i64 (le : Int), .int .i64 (bk : Int)] := by rw [hw1, hg1]; exact Blk.new _ _ _
      have f1 : Fr No V w1 := by rw [hw1]; exact fr_alloc _ _
      have hs1 : w1.heap.size = g1 + 1 := by rw [hw1, hg1]; simp
      have hB1 : Blk w1 g1 TCf #[.int .i64 (rg : Int), .slice (some ⟨bz, 0, none⟩) nz cz, .slice (some ⟨bc, 0, none⟩) nc cc, .slice At nt ct, .slice (some ⟨bv, 0, none⟩) nv cv, .slice Ar nr cr, .slice Ao no_ co, .int .i64 bl, .int .i64 (le : Int), .int .i64 (bk : Int)] := hb1.fr (Fr.refl No _) (fun h => h)
      have fW : Fr No V w1 := (Fr.refl No V).transNo f1
      have hka : ∀ V, Fr No w1 V → (V.cell? ⟨g1, 0, none⟩ = some (.int .i64 (rg : Int)) ∧ V.cell? ⟨g1, 1, none⟩ = some (.slice (some ⟨bz, 0, none⟩) nz cz) ∧ V.cell? ⟨g1, 2, none⟩ = some (.slice (some ⟨bc, 0, none⟩) nc cc) ∧ V.cell? ⟨g1, 3, none⟩ = some (.slice At nt ct) ∧ V.cell? ⟨g1, 4, none⟩ = some (.slice (some ⟨bv, 0, none⟩) nv cv) ∧ V.cell? ⟨g1, 5, none⟩ = some (.slice Ar nr cr) ∧ V.cell? ⟨g1, 6, none⟩ = some (.slice Ao no_ co) ∧ V.cell? ⟨g1, 7, none⟩ = some (.int .i64 bl) ∧ V.cell? ⟨g1, 8, none⟩ = some (.int .i64 (le : Int)) ∧ V.cell? ⟨g1, 9, none⟩ = some (.int .i64 (bk : Int))) := fun V hf => (let k := hB1.fr hf (fun h => h); ⟨k.cell 0, k.cell 1, k.cell 2, k.cell 3, k.cell 4, k.cell 5, k.cell 6, k.cell 7, k.cell 8, k.cell 9⟩)
      have hW : w1 = V.alloc (.cells #[.int .i64 (rg : Int), .slice (some ⟨bz, 0, none⟩) nz cz, .slice (some ⟨bc, 0, none⟩) nc cc, .slice At nt ct, .slice (some ⟨bv, 0, none⟩) nv cv, .slice Ar nr cr, .slice Ao no_ co, .int .i64 bl, .int .i64 (le : Int), .int .i64 (bk : Int)] TCf) := by rw [hw1]
      have hl1 : g1 < w1.heap.size := hB1.lt
      clear hw1 hb1 hs1
      have HG1 := Lib.hid hg1
      clear hg1
      have HKA := Lib.hid hka
      have HW := Lib.hid hW
      clear hka hW
      go_enter Tryd.func55, Tryd.ntmps55
      go_upto_region 1 with fail
      rw [← HW.out]
      try rw [← HG1.out]
      obtain ⟨e0, e1, e2, e3, e4, e5, e6, e7, e8, e9⟩ := HKA.out w1 (Fr.refl _ _)
      go_region
      go_wp2_with fail
      go_ret
      exact ⟨rfl, fW.transNo (by repeat (first | assumption | exact Fr.refl _ _ | refine Fr.alloc ?_ _ | refine Fr.drew ?_ | refine Fr.drewN ?_ _))⟩
  · have b1 : decide (0 ≤ t) = false := decide_eq_false h1
    refine ⟨false, fun V hV => ?_⟩
    obtain ⟨rg, nz, nc, nt, nv, le, bk, bz, bc, bv, cz, cc, ct, cv, At, Ar, nr, cr, Ao, no_, co, bl⟩ := c
    simp only at *
    clear hten hx h
    obtain ⟨w1, hw1⟩ : ∃ w1, w1 = V.alloc (.cells #[.int .i64 (rg : Int), .slice (some ⟨bz, 0, none⟩) nz cz, .slice (some ⟨bc, 0, none⟩) nc cc, .slice At nt ct, .slice (some ⟨bv, 0, none⟩) nv cv, .slice Ar nr cr, .slice Ao no_ co, .int .i64 bl, .int .i64 (le : Int), .int .i64 (bk : Int)] TCf) := ⟨_, rfl⟩
    obtain ⟨g1, hg1⟩ : ∃ g1, g1 = V.heap.size := ⟨_, rfl⟩
    have hb1 : Blk w1 g1 TCf #[.int .i64 (rg : Int), .slice (some ⟨bz, 0, none⟩) nz cz, .slice (some ⟨bc, 0, none⟩) nc cc, .slice At nt ct, .slice (some ⟨bv, 0, none⟩) nv cv, .slice Ar nr cr, .slice Ao no_ co, .int .i64 bl, .int .i64 (le : Int), .int .i64 (bk : Int)] := by rw [hw1, hg1]; exact Blk.new _ _ _
    have f1 : Fr No V w1 := by rw [hw1]; exact fr_alloc _ _
    have hs1 : w1.heap.size = g1 + 1 := by rw [hw1, hg1]; simp
    have hB1 : Blk w1 g1 TCf #[.int .i64 (rg : Int), .slice (some ⟨bz, 0, none⟩) nz cz, .slice (some ⟨bc, 0, none⟩) nc cc, .slice At nt ct, .slice (some ⟨bv, 0, none⟩) nv cv, .slice Ar nr cr, .slice Ao no_ co, .int .i64 bl, .int .i64 (le : Int), .int .i64 (bk : Int)] := hb1.fr (Fr.refl No _) (fun h => h)
    have fW : Fr No V w1 := (Fr.refl No V).transNo f1
    have hka : ∀ V, Fr No w1 V → (V.cell? ⟨g1, 0, none⟩ = some (.int .i64 (rg : Int)) ∧ V.cell? ⟨g1, 1, none⟩ = some (.slice (some ⟨bz, 0, none⟩) nz cz) ∧ V.cell? ⟨g1, 2, none⟩ = some (.slice (some ⟨bc, 0, none⟩) nc cc) ∧ V.cell? ⟨g1, 3, none⟩ = some (.slice At nt ct) ∧ V.cell? ⟨g1, 4, none⟩ = some (.slice (some ⟨bv, 0, none⟩) nv cv) ∧ V.cell? ⟨g1, 5, none⟩ = some (.slice Ar nr cr) ∧ V.cell? ⟨g1, 6, none⟩ = some (.slice Ao no_ co) ∧ V.cell? ⟨g1, 7, none⟩ = some (.int .i64 bl) ∧ V.cell? ⟨g1, 8, none⟩ = some (.int .i64 (le : Int)) ∧ V.cell? ⟨g1, 9, none⟩ = some (.int .i64 (bk : Int))) := fun V hf => (let k := hB1.fr hf (fun h => h); ⟨k.cell 0, k.cell 1, k.cell 2, k.cell 3, k.cell 4, k.cell 5, k.cell 6, k.cell 7, k.cell 8, k.cell 9⟩)
    have hW : w1 = V.alloc (.cells #[.int .i64 (rg : Int), .slice (some ⟨bz, 0, none⟩) nz cz, .slice (some ⟨bc, 0, none⟩) nc cc, .slice At nt ct, .slice (some ⟨bv, 0, none⟩) nv cv, .slice Ar nr cr, .slice Ao no_ co, .int .i64 bl, .int .i64 (le : Int), .int .i64 (bk : Int)] TCf) := by rw [hw1]
    have hl1 : g1 < w1.heap.size := hB1.lt
    clear hw1 hb1 hs1
    have HG1 := Lib.hid hg1
    clear hg1
    have HKA := Lib.hid hka
    have HW := Lib.hid hW
    clear hka hW
    go_enter Tryd.func55, Tryd.ntmps55
    go_upto_region 1 with fail
    rw [← HW.out]
    try rw [← HG1.out]
    obtain ⟨e0, e1, e2, e3, e4, e5, e6, e7, e8, e9⟩ := HKA.out w1 (Fr.refl _ _)
    go_region
    go_wp2_with fail
    go_ret
    exact ⟨rfl, fW.transNo (by repeat (first | assumption | exact Fr.refl _ _ | refine Fr.alloc ?_ _ | refine Fr.drew ?_ | refine Fr.drewN ?_ _))⟩
theorem regionOf_fn {w : World} {c : Cf} (h : CfOk w c) : ∃ R : Int → Int, ∀ i V, Fr No w V → Calls Tryd.prog 63 #[.agg c.arr, .int .i64 i] V (AnsI V (R i)) :=
  ⟨fun i => Classical.choose (regionOf_fix h i), fun i => (Classical.choose_spec (regionOf_fix h i)).2.2⟩
set_option maxRecDepth 100000 in
set_option maxHeartbeats 4000000 in
theorem apart_fix {w : World} {c : Cf} (h : CfOk w c) (i j : Int) : ∃ b : Bool, ∀ V, Fr No w V → Calls Tryd.prog 56 #[.agg c.arr, .int .i64 i, .int .i64 j] V (AnsB V b) := by
  obtain ⟨R, hx⟩ := regionOf_fn h
  refine ⟨decide (0 ≤ R i) && (decide (0 ≤ R j) && (R i != R j)), fun V hV => ?_⟩
  have hR := fun i W (hf : Fr No V W) => hx i W (hV.transNo hf)
  obtain ⟨x, ex⟩ : ∃ x, R i = x := ⟨_, rfl⟩
  obtain ⟨y, ey⟩ : ∃ y, R j = y := ⟨_, rfl⟩
  rw [ex, ey]
  generalize hq : (decide (0 ≤ x) && (decide (0 ≤ y) && (x != y))) = q
  obtain ⟨rg, nz, nc, nt, nv, le, bk, bz, bc, bv, cz, cc, ct, cv, At, Ar, nr, cr, Ao, no_, co, bl⟩ := c
  try simp only at *
  clear h hx
  obtain ⟨w1, hw1⟩ : ∃ w1, w1 = V.alloc (.cells #[.int .i64 (rg : Int), .slice (some ⟨bz, 0, none⟩) nz cz, .slice (some ⟨bc, 0, none⟩) nc cc, .slice At nt ct, .slice (some ⟨bv, 0, none⟩) nv cv, .slice Ar nr cr, .slice Ao no_ co, .int .i64 bl, .int .i64 (le : Int), .int .i64 (bk : Int)] TCf) := ⟨_, rfl⟩
  obtain ⟨g1, hg1⟩ : ∃ g1, g1 = V.heap.size := ⟨_, rfl⟩
  have hb1 : Blk w1 g1 TCf #[.int .i64 (rg : Int), .slice (some ⟨bz, 0, none⟩) nz cz, .slice (some ⟨bc, 0, none⟩) nc cc, .slice At nt ct, .slice (some ⟨bv, 0, none⟩) nv cv, .slice Ar nr cr, .slice Ao no_ co, .int .i64 bl, .int .i64 (le : Int), .int .i64 (bk : Int)] := by rw [hw1, hg1]; exact Blk.new _ _ _
  have f1 : Fr No V w1 := by rw [hw1]; exact fr_alloc _ _
  have hs1 : w1.heap.size = g1 + 1 := by rw [hw1, hg1]; simp
  have hB1 : Blk w1 g1 TCf #[.int .i64 (rg : Int), .slice (some ⟨bz, 0, none⟩) nz cz, .slice (some ⟨bc, 0, none⟩) nc cc, .slice At nt ct, .slice (some ⟨bv, 0, none⟩) nv cv, .slice Ar nr cr, .slice Ao no_ co, .int .i64 bl, .int .i64 (le : Int), .int .i64 (bk : Int)] := hb1.fr (Fr.refl No _) (fun h => h)
  have fW : Fr No V w1 := (Fr.refl No V).transNo f1
  have hka : ∀ V, Fr No w1 V → (V.cell? ⟨g1, 0, none⟩ = some (.int .i64 (rg : Int)) ∧ V.cell? ⟨g1, 1, none⟩ = some (.slice (some ⟨bz, 0, none⟩) nz cz) ∧ V.cell? ⟨g1, 2, none⟩ = some (.slice (some ⟨bc, 0, none⟩) nc cc) ∧ V.cell? ⟨g1, 3, none⟩ = some (.slice At nt ct) ∧ V.cell? ⟨g1, 4, none⟩ = some (.slice (some ⟨bv, 0, none⟩) nv cv) ∧ V.cell? ⟨g1, 5, none⟩ = some (.slice Ar nr cr) ∧ V.cell? ⟨g1, 6, none⟩ = some (.slice Ao no_ co) ∧ V.cell? ⟨g1, 7, none⟩ = some (.int .i64 bl) ∧ V.cell? ⟨g1, 8, none⟩ = some (.int .i64 (le : Int)) ∧ V.cell? ⟨g1, 9, none⟩ = some (.int .i64 (bk : Int))) := fun V hf => (let k := hB1.fr hf (fun h => h); ⟨k.cell 0, k.cell 1, k.cell 2, k.cell 3, k.cell 4, k.cell 5, k.cell 6, k.cell 7, k.cell 8, k.cell 9⟩)
  have hW : w1 = V.alloc (.cells #[.int .i64 (rg : Int), .slice (some ⟨bz, 0, none⟩) nz cz, .slice (some ⟨bc, 0, none⟩) nc cc, .slice At nt ct, .slice (some ⟨bv, 0, none⟩) nv cv, .slice Ar nr cr, .slice Ao no_ co, .int .i64 bl, .int .i64 (le : Int), .int .i64 (bk : Int)] TCf) := by rw [hw1]
  have hl1 : g1 < w1.heap.size := hB1.lt
  clear hw1 hb1 hs1
  have HG1 := Lib.hid hg1
  clear hg1
  have HR := Lib.hid hR
  have HKA := Lib.hid hka
  have HW := Lib.hid hW
  have HQ := Lib.hid hq
  have EX := Lib.hid ex
  have EY := Lib.hid ey
  clear hR hka hW hq ex ey
  go_enter Tryd.func56, Tryd.ntmps56
  go_upto_region 1 with fail
  rw [← HW.out]
  try rw [← HG1.out]
  obtain ⟨e0, e1, e2, e3, e4, e5, e6, e7, e8, e9⟩ := HKA.out w1 (Fr.refl _ _)
  obtain ⟨q1, hq1⟩ : ∃ q : Bool, decide (0 ≤ x) = q := ⟨_, rfl⟩
  obtain ⟨q2, hq2⟩ : ∃ q : Bool, decide (0 ≤ y) = q := ⟨_, rfl⟩
  obtain ⟨q3, hq3⟩ : ∃ q : Bool, (x != y) = q := ⟨_, rfl⟩
  have hq4 : q = (q1 && (q2 && q3)) := by rw [← HQ.out, hq1, hq2, hq3]
  clear HQ
  subst hq4
  go_upto_region 1 with fail
  go_cut [7, 8] from 9 to 14 (fun a b wx => a = .int .i64 x ∧ b = .int .i64 y ∧ Fr No w1 wx)
  case first =>
    go_region_held3 (fun U => Fr No w1 U ∧ U.cell? ⟨g1, 0, none⟩ = some (.int .i64 (rg : Int)) ∧ U.cell? ⟨g1, 1, none⟩ = some (.slice (some ⟨bz, 0, none⟩) nz cz) ∧ U.cell? ⟨g1, 2, none⟩ = some (.slice (some ⟨bc, 0, none⟩) nc cc) ∧ U.cell? ⟨g1, 3, none⟩ = some (.slice At nt ct) ∧ U.cell? ⟨g1, 4, none⟩ = some (.slice (some ⟨bv, 0, none⟩) nv cv) ∧ U.cell? ⟨g1, 5, none⟩ = some (.slice Ar nr cr) ∧ U.cell? ⟨g1, 6, none⟩ = some (.slice Ao no_ co) ∧ U.cell? ⟨g1, 7, none⟩ = some (.int .i64 bl) ∧ U.cell? ⟨g1, 8, none⟩ = some (.int .i64 (le : Int)) ∧ U.cell? ⟨g1, 9, none⟩ = some (.int .i64 (bk : Int))) (exact ⟨(by repeat (first | assumption | exact Fr.refl _ _ | refine Fr.alloc ?_ _ | refine Fr.drew ?_ | refine Fr.drewN ?_ _)), HKA.out _ (by repeat (first | assumption | exact Fr.refl _ _ | refine Fr.alloc ?_ _ | refine Fr.drew ?_ | refine Fr.drewN ?_ _))⟩) (first
      | (go_at_call 63; refine (HR.out _ _ (fW.transNo (by repeat (first | assumption | exact Fr.refl _ _ | refine Fr.alloc ?_ _ | refine Fr.drew ?_ | refine Fr.drewN ?_ _)))).mono ?_; rintro e w5 ⟨rfl, f5⟩; have Q5 : Fr No w1 w5 := Fr.transNo (by repeat (first | assumption | exact Fr.refl _ _ | refine Fr.alloc ?_ _ | refine Fr.drew ?_ | refine Fr.drewN ?_ _)) f5; clear f5))
    all_goals (try go_wp2_with fail)
    all_goals go_meet
    all_goals exact ⟨by rw [← EX.out], by rw [← EY.out], (by repeat (first | assumption | exact Fr.refl _ _ | refine Fr.alloc ?_ _ | refine Fr.drew ?_ | refine Fr.drewN ?_ _))⟩
  obtain ⟨rfl, rfl, hcf⟩ := hcut
  have f9 := Lib.hid (fW.transNo hcf)
  clear hcf e0 e1 e2 e3 e4 e5 e6 e7 e8 e9
  rcases q1 with _ | _
  · go_wp2_with fail
    go_ret
    exact ⟨rfl, f9.out⟩
  · rcases q2 with _ | _
    · go_wp2_with fail
      go_ret
      exact ⟨rfl, f9.out⟩
    · rcases q3 with _ | _
      · go_wp2_with fail
        go_ret
        exact ⟨rfl, f9.out⟩
      · go_wp2_with fail
        go_ret
        exact ⟨rfl, f9.out⟩
end Go.Proofs.YtanhbebikcoliaaDoor
/- Calls that only read: their answers, fixed ahead (3): together, frozen. -/
namespace Go.Proofs.YtanhbebikcoliaaDoor
open Go.ChangeShapes Go.WideShapes Go.ChangeAt Go.RowKit
set_option linter.unusedVariables false
set_option maxRecDepth 100000 in
set_option maxHeartbeats 4000000 in
theorem together_fix {w : World} {c : Cf} (h : CfOk w c) (i j : Int) : ∃ b : Bool, ∀ V, Fr No w V → Calls Tryd.prog 81 #[.agg c.arr, .int .i64 i, .int .i64 j] V (AnsB V b) := by
  obtain ⟨q, hx⟩ := apart_fix h i j
  refine ⟨decide (0 ≤ i) && (decide (0 ≤ j) && !q), fun V hV => ?_⟩
  have hR := fun W (hf : Fr No V W) => hx W (hV.transNo hf)
  obtain ⟨rg, nz, nc, nt, nv, le, bk, bz, bc, bv, cz, cc, ct, cv, At, Ar, nr, cr, Ao, no_, co, bl⟩ := c
  try simp only at *
  clear h hx
  obtain ⟨w1, hw1⟩ : ∃ w1, w1 = V.alloc (.cells #[.int .i64 (rg : Int), .slice (some ⟨bz, 0, none⟩) nz cz, .slice (some ⟨bc, 0, none⟩) nc cc, .slice At nt ct, .slice (some ⟨bv, 0, none⟩) nv cv, .slice Ar nr cr, .slice Ao no_ co, .int .i64 bl, .int .i64 (le : Int), .int .i64 (bk : Int)] TCf) := ⟨_, rfl⟩
  obtain ⟨g1, hg1⟩ : ∃ g1, g1 = V.heap.size := ⟨_, rfl⟩
  have hb1 : Blk w1 g1 TCf #[.int .i64 (rg : Int), .slice (some ⟨bz, 0, none⟩) nz cz, .slice (some ⟨bc, 0, none⟩) nc cc, .slice At nt ct, .slice (some ⟨bv, 0, none⟩) nv cv, .slice Ar nr cr, .slice Ao no_ co, .int .i64 bl, .int .i64 (le : Int), .int .i64 (bk : Int)] := by rw [hw1, hg1]; exact Blk.new _ _ _
  have f1 : Fr No V w1 := by rw [hw1]; exact fr_alloc _ _
  have hs1 : w1.heap.size = g1 + 1 := by rw [hw1, hg1]; simp
  have hB1 : Blk w1 g1 TCf #[.int .i64 (rg : Int), .slice (some ⟨bz, 0, none⟩) nz cz, .slice (some ⟨bc, 0, none⟩) nc cc, .slice At nt ct, .slice (some ⟨bv, 0, none⟩) nv cv, .slice Ar nr cr, .slice Ao no_ co, .int .i64 bl, .int .i64 (le : Int), .int .i64 (bk : Int)] := hb1.fr (Fr.refl No _) (fun h => h)
  have fW : Fr No V w1 := (Fr.refl No V).transNo f1
  have hka : ∀ V, Fr No w1 V → (V.cell? ⟨g1, 0, none⟩ = some (.int .i64 (rg : Int)) ∧ V.cell? ⟨g1, 1, none⟩ = some (.slice (some ⟨bz, 0, none⟩) nz cz) ∧ V.cell? ⟨g1, 2, none⟩ = some (.slice (some ⟨bc, 0, none⟩) nc cc) ∧ V.cell? ⟨g1, 3, none⟩ = some (.slice At nt ct) ∧ V.cell? ⟨g1, 4, none⟩ = some (.slice (some ⟨bv, 0, none⟩) nv cv) ∧ V.cell? ⟨g1, 5, none⟩ = some (.slice Ar nr cr) ∧ V.cell? ⟨g1, 6, none⟩ = some (.slice Ao no_ co) ∧ V.cell? ⟨g1, 7, none⟩ = some (.int .i64 bl) ∧ V.cell? ⟨g1, 8, none⟩ = some (.int .i64 (le : Int)) ∧ V.cell? ⟨g1, 9, none⟩ = some (.int .i64 (bk : Int))) := fun V hf => (let k := hB1.fr hf (fun h => h); ⟨k.cell 0, k.cell 1, k.cell 2, k.cell 3, k.cell 4, k.cell 5, k.cell 6, k.cell 7, k.cell 8, k.cell 9⟩)
  have hW : w1 = V.alloc (.cells #[.int .i64 (rg : Int), .slice (some ⟨bz, 0, none⟩) nz cz, .slice (some ⟨bc, 0, none⟩) nc cc, .slice At nt ct, .slice (some ⟨bv, 0, none⟩) nv cv, .slice Ar nr cr, .slice Ao no_ co, .int .i64 bl, .int .i64 (le : Int), .int .i64 (bk : Int)] TCf) := by rw [hw1]
  have hl1 : g1 < w1.heap.size := hB1.lt
  clear hw1 hb1 hs1
  have HG1 := Lib.hid hg1
  clear hg1
  have HR := Lib.hid hR
  have HKA := Lib.hid hka
  have HW := Lib.hid hW
  clear hR hka hW
  by_cases h1 : 0 ≤ i
  · have b1 : decide (0 ≤ i) = true := decide_eq_true h1
    by_cases h2 : 0 ≤ j
    · have b2 : decide (0 ≤ j) = true := decide_eq_true h2
      rw [b1, b2, Bool.true_and, Bool.true_and]
      go_enter Tryd.func81, Tryd.ntmps81
      go_upto_region 1 with fail
      rw [← HW.out]
      try rw [← HG1.out]
      obtain ⟨e0, e1, e2, e3, e4, e5, e6, e7, e8, e9⟩ := HKA.out w1 (Fr.refl _ _)
      go_wp2_with fail
      refine (HR.out _ fW).mono ?_
      rintro e w2 ⟨rfl, f2⟩
      rcases q with _ | _
      all_goals go_wp2_with fail
      all_goals (go_ret; exact ⟨rfl, fW.transNo f2⟩)
    · have b2 : decide (0 ≤ j) = false := decide_eq_false h2
      rw [b1, b2, Bool.true_and, Bool.false_and]
      go_enter Tryd.func81, Tryd.ntmps81
      go_upto_region 1 with fail
      rw [← HW.out]
      try rw [← HG1.out]
      obtain ⟨e0, e1, e2, e3, e4, e5, e6, e7, e8, e9⟩ := HKA.out w1 (Fr.refl _ _)
      go_wp2_with fail
      go_ret
      exact ⟨rfl, fW⟩
  · have b1 : decide (0 ≤ i) = false := decide_eq_false h1
    rw [b1, Bool.false_and]
    go_enter Tryd.func81, Tryd.ntmps81
    go_upto_region 1 with fail
    rw [← HW.out]
    try rw [← HG1.out]
    obtain ⟨e0, e1, e2, e3, e4, e5, e6, e7, e8, e9⟩ := HKA.out w1 (Fr.refl _ _)
    go_wp2_with fail
    go_ret
    exact ⟨rfl, fW⟩
set_option maxRecDepth 100000 in
set_option maxHeartbeats 4000000 in
theorem frozen_fix {w : World} {c : Cf} (h : CfOk w c) (s : St) (i : Int) : ∃ b : Bool, ∀ V, Fr No w V → Calls Tryd.prog 80 #[.agg c.arr, .agg s.arr, .int .i64 i] V (AnsB V b) := by
  obtain ⟨R, hx⟩ := regionOf_fn h
  refine ⟨hasV s.ev (R i), fun V hV => ?_⟩
  have hR := fun i W (hf : Fr No V W) => hx i W (hV.transNo hf)
  have hH := has_q
  generalize hq : hasV s.ev (R i) = q
  generalize ey : R i = y at *
  obtain ⟨rg, nz, nc, nt, nv, le, bk, bz, bc, bv, cz, cc, ct, cv, At, Ar, nr, cr, Ao, no_, co, bl⟩ := c
  obtain ⟨tk, cn, Bt, mt, dt, Bs, ms, ds, pr, ev, lo, hi⟩ := s
  try simp only at *
  clear h hx
  obtain ⟨w1, hw1⟩ : ∃ w1, w1 = V.alloc (.cells #[.int .i64 (rg : Int), .slice (some ⟨bz, 0, none⟩) nz cz, .slice (some ⟨bc, 0, none⟩) nc cc, .slice At nt ct, .slice (some ⟨bv, 0, none⟩) nv cv, .slice Ar nr cr, .slice Ao no_ co, .int .i64 bl, .int .i64 (le : Int), .int .i64 (bk : Int)] TCf) := ⟨_, rfl⟩
  obtain ⟨g1, hg1⟩ : ∃ g1, g1 = V.heap.size := ⟨_, rfl⟩
  have hb1 : Blk w1 g1 TCf #[.int .i64 (rg : Int), .slice (some ⟨bz, 0, none⟩) nz cz, .slice (some ⟨bc, 0, none⟩) nc cc, .slice At nt ct, .slice (some ⟨bv, 0, none⟩) nv cv, .slice Ar nr cr, .slice Ao no_ co, .int .i64 bl, .int .i64 (le : Int), .int .i64 (bk : Int)] := by rw [hw1, hg1]; exact Blk.new _ _ _
  have f1 : Fr No V w1 := by rw [hw1]; exact fr_alloc _ _
  have hs1 : w1.heap.size = g1 + 1 := by rw [hw1, hg1]; simp
  obtain ⟨w2, hw2⟩ : ∃ w2, w2 = w1.alloc (.cells #[.int .i64 tk, .int .i64 cn, .slice Bt mt dt, .slice Bs ms ds, .int .i64 pr, .int .i64 ev, .int .i64 lo, .int .i64 hi] TSt) := ⟨_, rfl⟩
  obtain ⟨g2, hg2⟩ : ∃ g2, g2 = w1.heap.size := ⟨_, rfl⟩
  have hb2 : Blk w2 g2 TSt #[.int .i64 tk, .int .i64 cn, .slice Bt mt dt, .slice Bs ms ds, .int .i64 pr, .int .i64 ev, .int .i64 lo, .int .i64 hi] := by rw [hw2, hg2]; exact Blk.new _ _ _
  have f2 : Fr No w1 w2 := by rw [hw2]; exact fr_alloc _ _
  have hs2 : w2.heap.size = g2 + 1 := by rw [hw2, hg2]; simp
  have hB1 : Blk w2 g1 TCf #[.int .i64 (rg : Int), .slice (some ⟨bz, 0, none⟩) nz cz, .slice (some ⟨bc, 0, none⟩) nc cc, .slice At nt ct, .slice (some ⟨bv, 0, none⟩) nv cv, .slice Ar nr cr, .slice Ao no_ co, .int .i64 bl, .int .i64 (le : Int), .int .i64 (bk : Int)] := hb1.fr ((Fr.refl No _).transNo f2) (fun h => h)
  have hB2 : Blk w2 g2 TSt #[.int .i64 tk, .int .i64 cn, .slice Bt mt dt, .slice Bs ms ds, .int .i64 pr, .int .i64 ev, .int .i64 lo, .int .i64 hi] := hb2.fr (Fr.refl No _) (fun h => h)
  have fW : Fr No V w2 := ((Fr.refl No V).transNo f1).transNo f2
  have he2 : g2 = g1 + 1 := by rw [hg2, hs1]
  have hka : ∀ V, Fr No w2 V → (V.cell? ⟨g1, 0, none⟩ = some (.int .i64 (rg : Int)) ∧ V.cell? ⟨g1, 1, none⟩ = some (.slice (some ⟨bz, 0, none⟩) nz cz) ∧ V.cell? ⟨g1, 2, none⟩ = some (.slice (some ⟨bc, 0, none⟩) nc cc) ∧ V.cell? ⟨g1, 3, none⟩ = some (.slice At nt ct) ∧ V.cell? ⟨g1, 4, none⟩ = some (.slice (some ⟨bv, 0, none⟩) nv cv) ∧ V.cell? ⟨g1, 5, none⟩ = some (.slice Ar nr cr) ∧ V.cell? ⟨g1, 6, none⟩ = some (.slice Ao no_ co) ∧ V.cell? ⟨g1, 7, none⟩ = some (.int .i64 bl) ∧ V.cell? ⟨g1, 8, none⟩ = some (.int .i64 (le : Int)) ∧ V.cell? ⟨g1, 9, none⟩ = some (.int .i64 (bk : Int))) ∧ (V.cell? ⟨g2, 0, none⟩ = some (.int .i64 tk) ∧ V.cell? ⟨g2, 1, none⟩ = some (.int .i64 cn) ∧ V.cell? ⟨g2, 2, none⟩ = some (.slice Bt mt dt) ∧ V.cell? ⟨g2, 3, none⟩ = some (.slice Bs ms ds) ∧ V.cell? ⟨g2, 4, none⟩ = some (.int .i64 pr) ∧ V.cell? ⟨g2, 5, none⟩ = some (.int .i64 ev) ∧ V.cell? ⟨g2, 6, none⟩ = some (.int .i64 lo) ∧ V.cell? ⟨g2, 7, none⟩ = some (.int .i64 hi)) := fun V hf => ⟨(let k := hB1.fr hf (fun h => h); ⟨k.cell 0, k.cell 1, k.cell 2, k.cell 3, k.cell 4, k.cell 5, k.cell 6, k.cell 7, k.cell 8, k.cell 9⟩), (let k := hB2.fr hf (fun h => h); ⟨k.cell 0, k.cell 1, k.cell 2, k.cell 3, k.cell 4, k.cell 5, k.cell 6, k.cell 7⟩)⟩
  have hW : w2 = (V.alloc (.cells #[.int .i64 (rg : Int), .slice (some ⟨bz, 0, none⟩) nz cz, .slice (some ⟨bc, 0, none⟩) nc cc, .slice At nt ct, .slice (some ⟨bv, 0, none⟩) nv cv, .slice Ar nr cr, .slice Ao no_ co, .int .i64 bl, .int .i64 (le : Int), .int .i64 (bk : Int)] TCf)).alloc (.cells #[.int .i64 tk, .int .i64 cn, .slice Bt mt dt, .slice Bs ms ds, .int .i64 pr, .int .i64 ev, .int .i64 lo, .int .i64 hi] TSt) := by rw [hw2, hw1]
  have hl1 : g1 < w2.heap.size := hB1.lt
  have hl2 : g2 < w2.heap.size := hB2.lt
  clear hw1 hb1 hs1 hw2 hb2 hs2
  have HG1 := Lib.hid hg1
  have HG2 := Lib.hid hg2
  have HE2 := Lib.hid he2
  clear hg1 hg2 he2
  have HR := Lib.hid hR
  have HH := Lib.hid hH
  have HKA := Lib.hid hka
  have HW := Lib.hid hW
  have HQ := Lib.hid hq
  have EY := Lib.hid ey
  clear hR hH hka hW hq ey
  go_enter Tryd.func80, Tryd.ntmps80
  go_upto_region 1 with fail
  rw [← HW.out]
  try rw [← show g2 = V.heap.size + 1 from by rw [HE2.out, HG1.out]]
  try rw [← HG1.out]
  obtain ⟨⟨e0, e1, e2, e3, e4, e5, e6, e7, e8, e9⟩, ⟨s0, s1, s2, s3, s4, s5, s6, s7⟩⟩ := HKA.out w2 (Fr.refl _ _)
  go_region_held3 (fun U => Fr No w2 U ∧ (U.cell? ⟨g1, 0, none⟩ = some (.int .i64 (rg : Int)) ∧ U.cell? ⟨g1, 1, none⟩ = some (.slice (some ⟨bz, 0, none⟩) nz cz) ∧ U.cell? ⟨g1, 2, none⟩ = some (.slice (some ⟨bc, 0, none⟩) nc cc) ∧ U.cell? ⟨g1, 3, none⟩ = some (.slice At nt ct) ∧ U.cell? ⟨g1, 4, none⟩ = some (.slice (some ⟨bv, 0, none⟩) nv cv) ∧ U.cell? ⟨g1, 5, none⟩ = some (.slice Ar nr cr) ∧ U.cell? ⟨g1, 6, none⟩ = some (.slice Ao no_ co) ∧ U.cell? ⟨g1, 7, none⟩ = some (.int .i64 bl) ∧ U.cell? ⟨g1, 8, none⟩ = some (.int .i64 (le : Int)) ∧ U.cell? ⟨g1, 9, none⟩ = some (.int .i64 (bk : Int))) ∧ (U.cell? ⟨g2, 0, none⟩ = some (.int .i64 tk) ∧ U.cell? ⟨g2, 1, none⟩ = some (.int .i64 cn) ∧ U.cell? ⟨g2, 2, none⟩ = some (.slice Bt mt dt) ∧ U.cell? ⟨g2, 3, none⟩ = some (.slice Bs ms ds) ∧ U.cell? ⟨g2, 4, none⟩ = some (.int .i64 pr) ∧ U.cell? ⟨g2, 5, none⟩ = some (.int .i64 ev) ∧ U.cell? ⟨g2, 6, none⟩ = some (.int .i64 lo) ∧ U.cell? ⟨g2, 7, none⟩ = some (.int .i64 hi))) (exact ⟨(by repeat (first | assumption | exact Fr.refl _ _ | refine Fr.alloc ?_ _ | refine Fr.drew ?_ | refine Fr.drewN ?_ _)), HKA.out _ (by repeat (first | assumption | exact Fr.refl _ _ | refine Fr.alloc ?_ _ | refine Fr.drew ?_ | refine Fr.drewN ?_ _))⟩) (first
    | (go_at_call 63; refine (HR.out _ _ (fW.transNo (by repeat (first | assumption | exact Fr.refl _ _ | refine Fr.alloc ?_ _ | refine Fr.drew ?_ | refine Fr.drewN ?_ _)))).mono ?_; rintro e w5 ⟨rfl, f5⟩; have Q5 : Fr No w2 w5 := Fr.transNo (by repeat (first | assumption | exact Fr.refl _ _ | refine Fr.alloc ?_ _ | refine Fr.drew ?_ | refine Fr.drewN ?_ _)) f5; clear f5; rw [EY.out])
    | (go_at_call 54; refine (HH.out _ _ _).mono ?_; rintro e w6 ⟨rfl, rfl⟩; rw [HQ.out]))
  all_goals go_wp2_with fail
  all_goals (go_ret; exact ⟨rfl, fW.transNo (by repeat (first | assumption | exact Fr.refl _ _ | refine Fr.alloc ?_ _ | refine Fr.drew ?_ | refine Fr.drewN ?_ _))⟩)
end Go.Proofs.YtanhbebikcoliaaDoor
