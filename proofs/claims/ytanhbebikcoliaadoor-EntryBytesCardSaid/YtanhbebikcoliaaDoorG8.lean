/-
  Several texts in one: StC, StD, StE, StF, StG, StH, StI, Fix.
-/
import Derived.Test.YtanhbebikcoliaaDoorG7
import Derived.Laws.MakeOwn
import Derived.Test.YtanhbebikcoliaaDoorG0
/- States of the control log: what is read of them (2). -/
namespace Go.Proofs.YtanhbebikcoliaaDoor
open Go.ChangeShapes Go.WideShapes Go.ChangeAt Go.RowKit
set_option linter.unusedVariables false
set_option maxRecDepth 100000 in
set_option maxHeartbeats 4000000 in
theorem frozen_any {w : World} {G : Nat → Prop} {c : Cf} {s : St} (h : CfOk w c) (hs : StOk w G c s) (i : Int) : Calls Tryd.prog 80 #[.agg c.arr, .agg s.arr, .int .i64 i] w (AnyB w) := by
  have hms := hs.ms
  have hmt := hs.mt
  have hR := fun W (hf : Fr No w W) => regionOf_any (h.frNo hf) i
  have hH := has_any
  obtain ⟨rg, nz, nc, nt, nv, le, bk, bz, bc, bv, cz, cc, ct, cv, At, Ar, nr, cr, Ao, no_, co, bl⟩ := c
  obtain ⟨tk, cn, Bt, mt, dt, Bs, ms, ds, pr, ev, lo, hi⟩ := s
  simp only at *
  subst hms hmt
  clear h hs
  obtain ⟨w1, hw1⟩ : ∃ w1, w1 = w.alloc (.cells #[.int .i64 (rg : Int), .slice (some ⟨bz, 0, none⟩) nz cz, .slice (some ⟨bc, 0, none⟩) ms cc, .slice At mt ct, .slice (some ⟨bv, 0, none⟩) nv cv, .slice Ar nr cr, .slice Ao no_ co, .int .i64 bl, .int .i64 (le : Int), .int .i64 (bk : Int)] TCf) := ⟨_, rfl⟩
  obtain ⟨g1, hg1⟩ : ∃ g1, g1 = w.heap.size := ⟨_, rfl⟩
  have hb1 : Blk w1 g1 TCf #[.int .i64 (rg : Int), .slice (some ⟨bz, 0, none⟩) nz cz, .slice (some ⟨bc, 0, none⟩) ms cc, .slice At mt ct, .slice (some ⟨bv, 0, none⟩) nv cv, .slice Ar nr cr, .slice Ao no_ co, .int .i64 bl, .int .i64 (le : Int), .int .i64 (bk : Int)] := by rw [hw1, hg1]; exact Blk.new _ _ _
  have f1 : Fr No w w1 := by rw [hw1]; exact fr_alloc _ _
  have hs1 : w1.heap.size = g1 + 1 := by rw [hw1, hg1]; simp
  obtain ⟨w2, hw2⟩ : ∃ w2, w2 = w1.alloc (.cells #[.int .i64 tk, .int .i64 cn, .slice Bt mt dt, .slice Bs ms ds, .int .i64 pr, .int .i64 ev, .int .i64 lo, .int .i64 hi] TSt) := ⟨_, rfl⟩
  obtain ⟨g2, hg2⟩ : ∃ g2, g2 = w1.heap.size := ⟨_, rfl⟩
  have hb2 : Blk w2 g2 TSt #[.int .i64 tk, .int .i64 cn, .slice Bt mt dt, .slice Bs ms ds, .int .i64 pr, .int .i64 ev, .int .i64 lo, .int .i64 hi] := by rw [hw2, hg2]; exact Blk.new _ _ _
  have f2 : Fr No w1 w2 := by rw [hw2]; exact fr_alloc _ _
  have hs2 : w2.heap.size = g2 + 1 := by rw [hw2, hg2]; simp
  have hB1 : Blk w2 g1 TCf #[.int .i64 (rg : Int), .slice (some ⟨bz, 0, none⟩) nz cz, .slice (some ⟨bc, 0, none⟩) ms cc, .slice At mt ct, .slice (some ⟨bv, 0, none⟩) nv cv, .slice Ar nr cr, .slice Ao no_ co, .int .i64 bl, .int .i64 (le : Int), .int .i64 (bk : Int)] := hb1.fr ((Fr.refl No _).transNo f2) (fun h => h)
  have hB2 : Blk w2 g2 TSt #[.int .i64 tk, .int .i64 cn, .slice Bt mt dt, .slice Bs ms ds, .int .i64 pr, .int .i64 ev, .int .i64 lo, .int .i64 hi] := hb2.fr (Fr.refl No _) (fun h => h)
  have fW : Fr No w w2 := ((Fr.refl No w).transNo f1).transNo f2
  have he2 : g2 = g1 + 1 := by rw [hg2, hs1]
  have hka : ∀ V, Fr No w2 V → (V.cell? ⟨g1, 0, none⟩ = some (.int .i64 (rg : Int)) ∧ V.cell? ⟨g1, 1, none⟩ = some (.slice (some ⟨bz, 0, none⟩) nz cz) ∧ V.cell? ⟨g1, 2, none⟩ = some (.slice (some ⟨bc, 0, none⟩) ms cc) ∧ V.cell? ⟨g1, 3, none⟩ = some (.slice At mt ct) ∧ V.cell? ⟨g1, 4, none⟩ = some (.slice (some ⟨bv, 0, none⟩) nv cv) ∧ V.cell? ⟨g1, 5, none⟩ = some (.slice Ar nr cr) ∧ V.cell? ⟨g1, 6, none⟩ = some (.slice Ao no_ co) ∧ V.cell? ⟨g1, 7, none⟩ = some (.int .i64 bl) ∧ V.cell? ⟨g1, 8, none⟩ = some (.int .i64 (le : Int)) ∧ V.cell? ⟨g1, 9, none⟩ = some (.int .i64 (bk : Int))) ∧ (V.cell? ⟨g2, 0, none⟩ = some (.int .i64 tk) ∧ V.cell? ⟨g2, 1, none⟩ = some (.int .i64 cn) ∧ V.cell? ⟨g2, 2, none⟩ = some (.slice Bt mt dt) ∧ V.cell? ⟨g2, 3, none⟩ = some (.slice Bs ms ds) ∧ V.cell? ⟨g2, 4, none⟩ = some (.int .i64 pr) ∧ V.cell? ⟨g2, 5, none⟩ = some (.int .i64 ev) ∧ V.cell? ⟨g2, 6, none⟩ = some (.int .i64 lo) ∧ V.cell? ⟨g2, 7, none⟩ = some (.int .i64 hi)) := fun V hf => ⟨(let k := hB1.fr hf (fun h => h); ⟨k.cell 0, k.cell 1, k.cell 2, k.cell 3, k.cell 4, k.cell 5, k.cell 6, k.cell 7, k.cell 8, k.cell 9⟩), (let k := hB2.fr hf (fun h => h); ⟨k.cell 0, k.cell 1, k.cell 2, k.cell 3, k.cell 4, k.cell 5, k.cell 6, k.cell 7⟩)⟩
  have hW : w2 = (w.alloc (.cells #[.int .i64 (rg : Int), .slice (some ⟨bz, 0, none⟩) nz cz, .slice (some ⟨bc, 0, none⟩) ms cc, .slice At mt ct, .slice (some ⟨bv, 0, none⟩) nv cv, .slice Ar nr cr, .slice Ao no_ co, .int .i64 bl, .int .i64 (le : Int), .int .i64 (bk : Int)] TCf)).alloc (.cells #[.int .i64 tk, .int .i64 cn, .slice Bt mt dt, .slice Bs ms ds, .int .i64 pr, .int .i64 ev, .int .i64 lo, .int .i64 hi] TSt) := by rw [hw2, hw1]
  clear hw1 hb1 hs1 hw2 hb2 hs2
  have HG1 := Lib.hid hg1
  have HG2 := Lib.hid hg2
  have HE2 := Lib.hid he2
  clear hg1 hg2 he2
  have HR := Lib.hid hR
  have HH := Lib.hid hH
  have HKA := Lib.hid hka
  have HW := Lib.hid hW
  clear hR hH hka hW
  go_enter Tryd.func80, Tryd.ntmps80
  go_upto_region 1 with fail
  rw [← HW.out]
  try rw [← show g2 = w.heap.size + 1 from by rw [HE2.out, HG1.out]]
  try rw [← HG1.out]
  obtain ⟨⟨e0, e1, e2, e3, e4, e5, e6, e7, e8, e9⟩, ⟨s0, s1, s2, s3, s4, s5, s6, s7⟩⟩ := HKA.out w2 (Fr.refl _ _)
  go_region_held3 (fun V => Fr No w2 V ∧ (V.cell? ⟨g1, 0, none⟩ = some (.int .i64 (rg : Int)) ∧ V.cell? ⟨g1, 1, none⟩ = some (.slice (some ⟨bz, 0, none⟩) nz cz) ∧ V.cell? ⟨g1, 2, none⟩ = some (.slice (some ⟨bc, 0, none⟩) ms cc) ∧ V.cell? ⟨g1, 3, none⟩ = some (.slice At mt ct) ∧ V.cell? ⟨g1, 4, none⟩ = some (.slice (some ⟨bv, 0, none⟩) nv cv) ∧ V.cell? ⟨g1, 5, none⟩ = some (.slice Ar nr cr) ∧ V.cell? ⟨g1, 6, none⟩ = some (.slice Ao no_ co) ∧ V.cell? ⟨g1, 7, none⟩ = some (.int .i64 bl) ∧ V.cell? ⟨g1, 8, none⟩ = some (.int .i64 (le : Int)) ∧ V.cell? ⟨g1, 9, none⟩ = some (.int .i64 (bk : Int))) ∧ (V.cell? ⟨g2, 0, none⟩ = some (.int .i64 tk) ∧ V.cell? ⟨g2, 1, none⟩ = some (.int .i64 cn) ∧ V.cell? ⟨g2, 2, none⟩ = some (.slice Bt mt dt) ∧ V.cell? ⟨g2, 3, none⟩ = some (.slice Bs ms ds) ∧ V.cell? ⟨g2, 4, none⟩ = some (.int .i64 pr) ∧ V.cell? ⟨g2, 5, none⟩ = some (.int .i64 ev) ∧ V.cell? ⟨g2, 6, none⟩ = some (.int .i64 lo) ∧ V.cell? ⟨g2, 7, none⟩ = some (.int .i64 hi))) (exact ⟨(by repeat (first | assumption | exact Fr.refl _ _ | refine Fr.alloc ?_ _ | refine Fr.drew ?_ | refine Fr.drewN ?_ _)), HKA.out _ (by repeat (first | assumption | exact Fr.refl _ _ | refine Fr.alloc ?_ _ | refine Fr.drew ?_ | refine Fr.drewN ?_ _))⟩) (first
    | (go_at_call 63; refine (HR.out _ (fW.transNo (by repeat (first | assumption | exact Fr.refl _ _ | refine Fr.alloc ?_ _ | refine Fr.drew ?_ | refine Fr.drewN ?_ _)))).mono ?_; rintro e w5 ⟨z, rfl, z1, z2, f5⟩; have Q5 : Fr No w2 w5 := Fr.transNo (by repeat (first | assumption | exact Fr.refl _ _ | refine Fr.alloc ?_ _ | refine Fr.drew ?_ | refine Fr.drewN ?_ _)) f5; clear f5)
    | (go_at_call 54; refine (HH.out _ _ _).mono ?_; rintro e w6 ⟨y, rfl, f6⟩; have Q6 : Fr No w2 w6 := Fr.transNo (by repeat (first | assumption | exact Fr.refl _ _ | refine Fr.alloc ?_ _ | refine Fr.drew ?_ | refine Fr.drewN ?_ _)) f6; clear f6))
  all_goals go_wp2_with fail
  all_goals (go_ret; exact AnyB.of (fW.transNo (by repeat (first | assumption | exact Fr.refl _ _ | refine Fr.alloc ?_ _ | refine Fr.drew ?_ | refine Fr.drewN ?_ _))))
set_option maxRecDepth 100000 in
set_option maxHeartbeats 4000000 in
theorem together_any {w : World} {c : Cf} (h : CfOk w c) (i j : Int) : Calls Tryd.prog 81 #[.agg c.arr, .int .i64 i, .int .i64 j] w (AnyB w) := by
  have hR := fun W (hf : Fr No w W) => apart_any (h.frNo hf) i j
  obtain ⟨rg, nz, ms, mt, nv, le, bk, bz, bc, bv, cz, cc, ct, cv, At, Ar, nr, cr, Ao, no_, co, bl⟩ := c
  clear h
  obtain ⟨w1, hw1⟩ : ∃ w1, w1 = w.alloc (.cells #[.int .i64 (rg : Int), .slice (some ⟨bz, 0, none⟩) nz cz, .slice (some ⟨bc, 0, none⟩) ms cc, .slice At mt ct, .slice (some ⟨bv, 0, none⟩) nv cv, .slice Ar nr cr, .slice Ao no_ co, .int .i64 bl, .int .i64 (le : Int), .int .i64 (bk : Int)] TCf) := ⟨_, rfl⟩
  obtain ⟨g1, hg1⟩ : ∃ g1, g1 = w.heap.size := ⟨_, rfl⟩
  have hb1 : Blk w1 g1 TCf #[.int .i64 (rg : Int), .slice (some ⟨bz, 0, none⟩) nz cz, .slice (some ⟨bc, 0, none⟩) ms cc, .slice At mt ct, .slice (some ⟨bv, 0, none⟩) nv cv, .slice Ar nr cr, .slice Ao no_ co, .int .i64 bl, .int .i64 (le : Int), .int .i64 (bk : Int)] := by rw [hw1, hg1]; exact Blk.new _ _ _
  have f1 : Fr No w w1 := by rw [hw1]; exact fr_alloc _ _
  have hs1 : w1.heap.size = g1 + 1 := by rw [hw1, hg1]; simp
  have hB1 : Blk w1 g1 TCf #[.int .i64 (rg : Int), .slice (some ⟨bz, 0, none⟩) nz cz, .slice (some ⟨bc, 0, none⟩) ms cc, .slice At mt ct, .slice (some ⟨bv, 0, none⟩) nv cv, .slice Ar nr cr, .slice Ao no_ co, .int .i64 bl, .int .i64 (le : Int), .int .i64 (bk : Int)] := hb1.fr (Fr.refl No _) (fun h => h)
  have fW : Fr No w w1 := (Fr.refl No w).transNo f1
  have hka : ∀ V, Fr No w1 V → (V.cell? ⟨g1, 0, none⟩ = some (.int .i64 (rg : Int)) ∧ V.cell? ⟨g1, 1, none⟩ = some (.slice (some ⟨bz, 0, none⟩) nz cz) ∧ V.cell? ⟨g1, 2, none⟩ = some (.slice (some ⟨bc, 0, none⟩) ms cc) ∧ V.cell? ⟨g1, 3, none⟩ = some (.slice At mt ct) ∧ V.cell? ⟨g1, 4, none⟩ = some (.slice (some ⟨bv, 0, none⟩) nv cv) ∧ V.cell? ⟨g1, 5, none⟩ = some (.slice Ar nr cr) ∧ V.cell? ⟨g1, 6, none⟩ = some (.slice Ao no_ co) ∧ V.cell? ⟨g1, 7, none⟩ = some (.int .i64 bl) ∧ V.cell? ⟨g1, 8, none⟩ = some (.int .i64 (le : Int)) ∧ V.cell? ⟨g1, 9, none⟩ = some (.int .i64 (bk : Int))) := fun V hf => (let k := hB1.fr hf (fun h => h); ⟨k.cell 0, k.cell 1, k.cell 2, k.cell 3, k.cell 4, k.cell 5, k.cell 6, k.cell 7, k.cell 8, k.cell 9⟩)
  have hW : w1 = w.alloc (.cells #[.int .i64 (rg : Int), .slice (some ⟨bz, 0, none⟩) nz cz, .slice (some ⟨bc, 0, none⟩) ms cc, .slice At mt ct, .slice (some ⟨bv, 0, none⟩) nv cv, .slice Ar nr cr, .slice Ao no_ co, .int .i64 bl, .int .i64 (le : Int), .int .i64 (bk : Int)] TCf) := by rw [hw1]
  clear hw1 hb1 hs1
  have HG1 := Lib.hid hg1
  clear hg1
  have HR := Lib.hid hR
  have HKA := Lib.hid hka
  have HW := Lib.hid hW
  clear hR hka hW
  by_cases h1 : 0 ≤ i
  · have b1 : decide (0 ≤ i) = true := decide_eq_true h1
    by_cases h2 : 0 ≤ j
    · have b2 : decide (0 ≤ j) = true := decide_eq_true h2
      go_enter Tryd.func81, Tryd.ntmps81
      go_upto_region 1 with fail
      rw [← HW.out]
      try rw [← HG1.out]
      obtain ⟨e0, e1, e2, e3, e4, e5, e6, e7, e8, e9⟩ := HKA.out w1 (Fr.refl _ _)
      go_wp2_with fail
      refine (HR.out _ fW).mono ?_
      rintro e w2 ⟨b, rfl, f2⟩
      go_wp2_with fail
      all_goals (go_ret; exact AnyB.of (fW.transNo (by repeat (first | assumption | exact Fr.refl _ _ | refine Fr.alloc ?_ _ | refine Fr.drew ?_ | refine Fr.drewN ?_ _))))
    · have b2 : decide (0 ≤ j) = false := decide_eq_false h2
      go_enter Tryd.func81, Tryd.ntmps81
      go_upto_region 1 with fail
      rw [← HW.out]
      try rw [← HG1.out]
      obtain ⟨e0, e1, e2, e3, e4, e5, e6, e7, e8, e9⟩ := HKA.out w1 (Fr.refl _ _)
      go_wp2_with fail
      all_goals (go_ret; exact AnyB.of (fW.transNo (by repeat (first | assumption | exact Fr.refl _ _ | refine Fr.alloc ?_ _ | refine Fr.drew ?_ | refine Fr.drewN ?_ _))))
  · have b1 : decide (0 ≤ i) = false := decide_eq_false h1
    go_enter Tryd.func81, Tryd.ntmps81
    go_upto_region 1 with fail
    rw [← HW.out]
    try rw [← HG1.out]
    obtain ⟨e0, e1, e2, e3, e4, e5, e6, e7, e8, e9⟩ := HKA.out w1 (Fr.refl _ _)
    go_wp2_with fail
    all_goals (go_ret; exact AnyB.of (fW.transNo (by repeat (first | assumption | exact Fr.refl _ _ | refine Fr.alloc ?_ _ | refine Fr.drew ?_ | refine Fr.drewN ?_ _))))
/-- A block of numbers that may be written. -/
def IntB (w : World) (b n : Nat) : Prop := ∃ cur, Blk w b TIm cur ∧ ∀ i, i < n → ∃ x : Int, cur[i]? = some (.int .i64 x)
theorem IntB.fr {w w' : World} {F : Nat → Prop} {b n : Nat} (h : IntB w b n) (hf : Fr F w w') (hb : ¬ F b) : IntB w' b n := by
  obtain ⟨cur, h1, h2⟩ := h
  exact ⟨cur, h1.fr hf hb, h2⟩
theorem IntB.set {w : World} {b n : Nat} (h : IntB w b n) (i : Nat) (x : Int) : IntB (w.setCell ⟨b, i, none⟩ (.int .i64 x)) b n := by
  obtain ⟨cur, h1, h2⟩ := h
  refine ⟨_, h1.set_ i _, fun j hj => ?_⟩
  obtain ⟨y, hy⟩ := h2 j hj
  rw [Array.getElem?_setIfInBounds]
  by_cases e : i = j
  · subst e
    rw [if_pos rfl, if_pos (Array.getElem?_eq_some_iff.1 hy).1]
    exact ⟨x, rfl⟩
  · rw [if_neg e]; exact ⟨y, hy⟩
set_option maxRecDepth 100000 in
set_option maxHeartbeats 4000000 in
theorem addm_any {w : World} {b n c : Nat} (h : IntB w b n) (hn : n ≤ 16) (i x : Int) : Calls Tryd.prog 89 #[.slice (some ⟨b, 0, none⟩) n c, .int .i64 i, .int .i64 x] w fun e w' => e = .returned (.tuple #[]) ∧ IntB w' b n ∧ Fr (fun i => i = b) w w' := by
  by_cases h1 : 0 ≤ i
  · have b1 : decide (0 ≤ i) = true := decide_eq_true h1
    by_cases h2 : i < (n : Int)
    · have b2 : decide (i < (n : Int)) = true := decide_eq_true h2
      obtain ⟨k, rfl, hk⟩ := nat_of (i := i) (n := n) h1 h2
      have hix : (0 : Int) ≤ (k : Int) ∧ (k : Int) < (n : Int) := by omega
      have hh := h
      obtain ⟨cur, c1, c2⟩ := h
      obtain ⟨y, hy⟩ := c2 k hk
      have d1 : w.cell? ⟨b, k, none⟩ = some (.int .i64 y) := (c1.cell k).trans hy
      have d2 := c1.frozen k
      have hset := fun z => hh.set k z
      have HSET := Lib.hid hset
      have HH := Lib.hid hh
      clear hset hh
      clear c1 c2 hy
      go_enter Tryd.func89, Tryd.ntmps89
      go_wp2_with fail
      go_end0
      exact ⟨rfl, HSET.out _, fr_set w ⟨b, k, none⟩ _⟩
    · have b2 : decide (i < (n : Int)) = false := decide_eq_false h2
      have H := Lib.hid h
      clear h
      go_enter Tryd.func89, Tryd.ntmps89
      go_wp2_with fail
      go_end0
      exact ⟨rfl, H.out, Fr.refl _ _⟩
  · have b1 : decide (0 ≤ i) = false := decide_eq_false h1
    have H := Lib.hid h
    clear h
    go_enter Tryd.func89, Tryd.ntmps89
    go_wp2_with fail
    go_end0
    exact ⟨rfl, H.out, Fr.refl _ _⟩
/-- 'make([]int, n)'. -/
theorem zeros_get (n i : Nat) (h : i < n) : (List.replicate n (Value.int .i64 0)).toArray[i]? = some (.int .i64 (0 : Int)) := by simp [h]
theorem madeI (n : Nat) : madeCells (Value.int .i64 0).cells (n * 1) = (List.replicate n (Value.int .i64 0)).toArray := by
  apply Array.ext
  · simp [madeCells]
  · intro i h1 h2
    simp [madeCells, Value.cells, Nat.mod_one]
theorem run_makeI (n : Nat) (hn : n ≤ 16) (w : World) : (Instr.makeSlice 22 (.int .i64 (n : Int)) (.int .i64 (n : Int))).run Tryd.prog w = .ok (.slice (some ⟨w.heap.size, 0, none⟩) n n) (w.alloc (.cells (List.replicate n (Value.int .i64 0)).toArray TIm)) := by
  obtain ⟨i1, hi1, hz0, hz1, hz2⟩ := infom intm_info
  have h := run_make (P := Tryd.prog) w 22 TIm i1 _ Tryd.underlying22 hi1 hz0 .i64 .i64 (n : Int) (n : Int) (by omega) (Int.le_refl _) (by rw [hz2]; omega) (by omega)
  rw [h, Int.toNat_natCast, hz1, madeI]
theorem IntB.made (w : World) (n g : Nat) (h : w.heap.size = g) : IntB (w.alloc (.cells (List.replicate n (Value.int .i64 0)).toArray TIm)) g n := ⟨_, Blk.newAt _ _ _ _ h, fun i hi => ⟨0, zeros_get n i hi⟩⟩
theorem CfOk.tenR {w : World} {c : Cf} (h : CfOk w c) {i : Nat} (hi : i < c.nt) : ∃ (bt : Nat) (a b p l d g : Int) (n : Bool), c.At = some ⟨bt, 0, none⟩ ∧ bt < w.heap.size ∧ ∀ V, Fr No w V → V.cell? ⟨bt, i * 7, none⟩ = some (.int .i64 a) ∧ V.cell? ⟨bt, i * 7 + 1, none⟩ = some (.int .i64 b) ∧ V.cell? ⟨bt, i * 7 + 2, none⟩ = some (.int .i64 p) ∧ V.cell? ⟨bt, i * 7 + 3, none⟩ = some (.int .i64 l) ∧ V.cell? ⟨bt, i * 7 + 4, none⟩ = some (.int .i64 d) ∧ V.cell? ⟨bt, i * 7 + 5, none⟩ = some (.int .i64 g) ∧ V.cell? ⟨bt, i * 7 + 6, none⟩ = some (.bool n) := by
  obtain ⟨bt, a, b, p, l, d, g, n, e1, e2, c0, c1, c2, c3, c4, c5, c6⟩ := h.ten i hi
  have q : ∀ {i : Nat} {v : Value} {V : World}, Fr No w V → w.cell? ⟨bt, i, none⟩ = some v → V.cell? ⟨bt, i, none⟩ = some v := fun {i v V} hf hv => (hf.cell (p := ⟨bt, i, none⟩) e2 (fun h => h)).trans hv
  exact ⟨bt, a, b, p, l, d, g, n, e1, e2, fun V hf => ⟨q hf c0, q hf c1, q hf c2, q hf c3, q hf c4, q hf c5, q hf c6⟩⟩
/-- A row of n numbers that was made since w. -/
def BkTo (w : World) (n : Nat) (e : Ending) (w' : World) : Prop := ∃ b c, e = .returned (.slice (some ⟨b, 0, none⟩) n c) ∧ w.heap.size ≤ b ∧ IntB w' b n ∧ Fr No w w'
abbrev TTn : TypeId := 76
theorem Fr.transSame {F : Nat → Prop} {a b d : World} (h : Fr F a b) (k : Fr F b d) : Fr F a d := h.trans k fun i hi => .inl hi
/-- Two new blocks, the one a tenant's state, the other what it declares. -/
def TD (w : World) (ta da : Array Value) (x y : Value) (wx : World) : Prop := ∃ gt gd, x = .pointer (some ⟨gt, 0, none⟩) ∧ y = .pointer (some ⟨gd, 0, none⟩) ∧ Blk wx gt TTs ta ∧ Blk wx gd TTn da ∧ Fr No w wx ∧ w.heap.size ≤ gt ∧ w.heap.size ≤ gd
theorem TD.one (w : World) (ta da : Array Value) : TD w ta da (.pointer (some ⟨w.heap.size, 0, none⟩)) (.pointer (some ⟨w.heap.size + 1, 0, none⟩)) (((w.alloc (.cells ta TTs)).alloc (.cells da TTn)).drew) :=
  ⟨_, _, rfl, rfl, (Blk.new w TTs ta).fr ((fr_alloc _ _).drew) (fun h => h), (Blk.newAt _ _ _ _ (by simp)).fr (Fr.refl No _).drew (fun h => h), ((fr_alloc w _).alloc _).drew, Nat.le_refl _, Nat.le_succ _⟩
theorem TD.two (w : World) (ta da : Array Value) : TD w ta da (.pointer (some ⟨w.heap.size + 1, 0, none⟩)) (.pointer (some ⟨w.heap.size, 0, none⟩)) (((w.alloc (.cells da TTn)).alloc (.cells ta TTs)).drew) :=
  ⟨_, _, rfl, rfl, (Blk.newAt _ _ _ _ (by simp)).fr (Fr.refl No _).drew (fun h => h), (Blk.new w TTn da).fr ((fr_alloc _ _).drew) (fun h => h), ((fr_alloc w _).alloc _).drew, Nat.le_succ _, Nat.le_refl _⟩
set_option maxRecDepth 100000 in
set_option maxHeartbeats 8000000 in
theorem booked_any {w : World} {G : Nat → Prop} {c : Cf} {s : St} (h : CfOk w c) (hs : StOk w G c s) : Calls Tryd.prog 88 #[.agg c.arr, .agg s.arr] w (BkTo w c.nc) := by
  have hms := hs.ms
  have hmt := hs.mt
  have hnc2 := h.nc2
  have hnt2 := h.nt2
  have hten := fun i (hi : i < c.nt) => hs.ten hi
  have hct := fun i (hi : i < c.nt) => h.tenR hi
  obtain ⟨rg, nz, nc, nt, nv, le, bk, bz, bc, bv, cz, cc, ct, cv, At, Ar, nr, cr, Ao, no_, co, bl⟩ := c
  obtain ⟨tk, cn, Bt, mt, dt, Bs, ms, ds, pr, ev, lo, hi⟩ := s
  simp only at *
  subst hms hmt
  clear h hs
  have hmk := run_makeI ms hnc2
  obtain ⟨w1, hw1⟩ : ∃ w1, w1 = w.alloc (.cells #[.int .i64 (rg : Int), .slice (some ⟨bz, 0, none⟩) nz cz, .slice (some ⟨bc, 0, none⟩) ms cc, .slice At mt ct, .slice (some ⟨bv, 0, none⟩) nv cv, .slice Ar nr cr, .slice Ao no_ co, .int .i64 bl, .int .i64 (le : Int), .int .i64 (bk : Int)] TCf) := ⟨_, rfl⟩
  obtain ⟨g1, hg1⟩ : ∃ g1, g1 = w.heap.size := ⟨_, rfl⟩
  have hb1 : Blk w1 g1 TCf #[.int .i64 (rg : Int), .slice (some ⟨bz, 0, none⟩) nz cz, .slice (some ⟨bc, 0, none⟩) ms cc, .slice At mt ct, .slice (some ⟨bv, 0, none⟩) nv cv, .slice Ar nr cr, .slice Ao no_ co, .int .i64 bl, .int .i64 (le : Int), .int .i64 (bk : Int)] := by rw [hw1, hg1]; exact Blk.new _ _ _
  have f1 : Fr No w w1 := by rw [hw1]; exact fr_alloc _ _
  have hs1 : w1.heap.size = g1 + 1 := by rw [hw1, hg1]; simp
  obtain ⟨w2, hw2⟩ : ∃ w2, w2 = w1.alloc (.cells #[.int .i64 tk, .int .i64 cn, .slice Bt mt dt, .slice Bs ms ds, .int .i64 pr, .int .i64 ev, .int .i64 lo, .int .i64 hi] TSt) := ⟨_, rfl⟩
  obtain ⟨g2, hg2⟩ : ∃ g2, g2 = w1.heap.size := ⟨_, rfl⟩
  have hb2 : Blk w2 g2 TSt #[.int .i64 tk, .int .i64 cn, .slice Bt mt dt, .slice Bs ms ds, .int .i64 pr, .int .i64 ev, .int .i64 lo, .int .i64 hi] := by rw [hw2, hg2]; exact Blk.new _ _ _
  have f2 : Fr No w1 w2 := by rw [hw2]; exact fr_alloc _ _
  have hs2 : w2.heap.size = g2 + 1 := by rw [hw2, hg2]; simp
  have hB1 : Blk w2 g1 TCf #[.int .i64 (rg : Int), .slice (some ⟨bz, 0, none⟩) nz cz, .slice (some ⟨bc, 0, none⟩) ms cc, .slice At mt ct, .slice (some ⟨bv, 0, none⟩) nv cv, .slice Ar nr cr, .slice Ao no_ co, .int .i64 bl, .int .i64 (le : Int), .int .i64 (bk : Int)] := hb1.fr ((Fr.refl No _).transNo f2) (fun h => h)
  have hB2 : Blk w2 g2 TSt #[.int .i64 tk, .int .i64 cn, .slice Bt mt dt, .slice Bs ms ds, .int .i64 pr, .int .i64 ev, .int .i64 lo, .int .i64 hi] := hb2.fr (Fr.refl No _) (fun h => h)
  have fW : Fr No w w2 := ((Fr.refl No w).transNo f1).transNo f2
  have he2 : g2 = g1 + 1 := by rw [hg2, hs1]
  have hka : ∀ V, Fr No w2 V → (V.cell? ⟨g1, 0, none⟩ = some (.int .i64 (rg : Int)) ∧ V.cell? ⟨g1, 1, none⟩ = some (.slice (some ⟨bz, 0, none⟩) nz cz) ∧ V.cell? ⟨g1, 2, none⟩ = some (.slice (some ⟨bc, 0, none⟩) ms cc) ∧ V.cell? ⟨g1, 3, none⟩ = some (.slice At mt ct) ∧ V.cell? ⟨g1, 4, none⟩ = some (.slice (some ⟨bv, 0, none⟩) nv cv) ∧ V.cell? ⟨g1, 5, none⟩ = some (.slice Ar nr cr) ∧ V.cell? ⟨g1, 6, none⟩ = some (.slice Ao no_ co) ∧ V.cell? ⟨g1, 7, none⟩ = some (.int .i64 bl) ∧ V.cell? ⟨g1, 8, none⟩ = some (.int .i64 (le : Int)) ∧ V.cell? ⟨g1, 9, none⟩ = some (.int .i64 (bk : Int))) ∧ (V.cell? ⟨g2, 0, none⟩ = some (.int .i64 tk) ∧ V.cell? ⟨g2, 1, none⟩ = some (.int .i64 cn) ∧ V.cell? ⟨g2, 2, none⟩ = some (.slice Bt mt dt) ∧ V.cell? ⟨g2, 3, none⟩ = some (.slice Bs ms ds) ∧ V.cell? ⟨g2, 4, none⟩ = some (.int .i64 pr) ∧ V.cell? ⟨g2, 5, none⟩ = some (.int .i64 ev) ∧ V.cell? ⟨g2, 6, none⟩ = some (.int .i64 lo) ∧ V.cell? ⟨g2, 7, none⟩ = some (.int .i64 hi)) := fun V hf => ⟨(let k := hB1.fr hf (fun h => h); ⟨k.cell 0, k.cell 1, k.cell 2, k.cell 3, k.cell 4, k.cell 5, k.cell 6, k.cell 7, k.cell 8, k.cell 9⟩), (let k := hB2.fr hf (fun h => h); ⟨k.cell 0, k.cell 1, k.cell 2, k.cell 3, k.cell 4, k.cell 5, k.cell 6, k.cell 7⟩)⟩
  have hW : w2 = (w.alloc (.cells #[.int .i64 (rg : Int), .slice (some ⟨bz, 0, none⟩) nz cz, .slice (some ⟨bc, 0, none⟩) ms cc, .slice At mt ct, .slice (some ⟨bv, 0, none⟩) nv cv, .slice Ar nr cr, .slice Ao no_ co, .int .i64 bl, .int .i64 (le : Int), .int .i64 (bk : Int)] TCf)).alloc (.cells #[.int .i64 tk, .int .i64 cn, .slice Bt mt dt, .slice Bs ms ds, .int .i64 pr, .int .i64 ev, .int .i64 lo, .int .i64 hi] TSt) := by rw [hw2, hw1]
  clear hw1 hb1 hs1 hw2 hb2 hs2
  have HG1 := Lib.hid hg1
  have HG2 := Lib.hid hg2
  have HE2 := Lib.hid he2
  clear hg1 hg2 he2
  have HKA := Lib.hid hka
  have HW := Lib.hid hW
  have HTEN := Lib.hid hten
  have HCT := Lib.hid hct
  have HMK := Lib.hid hmk
  clear hka hW hten hct hmk
  go_enter Tryd.func88, Tryd.ntmps88
  go_upto_region 1 with fail
  rw [← HW.out]
  try rw [← show g2 = w.heap.size + 1 from by rw [HE2.out, HG1.out]]
  try rw [← HG1.out]
  obtain ⟨⟨e0, e1, e2, e3, e4, e5, e6, e7, e8, e9⟩, ⟨s0, s1, s2, s3, s4, s5, s6, s7⟩⟩ := HKA.out w2 (Fr.refl _ _)
  have hmk2 := HMK.out w2
  obtain ⟨g3, hg3⟩ : ∃ g3, g3 = w2.heap.size := ⟨_, rfl⟩
  have hB0 := IntB.made w2 ms g3 hg3.symm
  obtain ⟨w3, hw3⟩ : ∃ w3, w3 = w2.alloc (.cells (List.replicate ms (Value.int .i64 0)).toArray TIm) := ⟨_, rfl⟩
  have f3 : Fr No w2 w3 := by rw [hw3]; exact fr_alloc _ _
  rw [← hw3] at hB0 hmk2
  rw [← hg3] at hmk2
  have hg3l : w.heap.size ≤ g3 := by rw [hg3]; exact fW.size
  have hB := Lib.hid hB0
  have HG3 := Lib.hid hg3
  clear hB0 hg3 hw3
  go_wp2_with fail
  clear e0 e1 e2 e3 e4 e5 e6 e7 e8 e9 s0 s1 s2 s3 s4 s5 s6 s7 hmk2
  go_loopw [6] (fun i wr => ∃ k : Nat, k ≤ mt ∧ i = .int .i64 k ∧ IntB wr g3 ms ∧ Fr (fun b => b = g3) w3 wr) (fun i _ => mt - (intOf i).toNat)
  case atStart => exact ⟨0, Nat.zero_le _, rfl, hB.out, Fr.refl _ _⟩
  case round =>
    obtain ⟨k, hk, rfl, hI, hf⟩ := hrel
    have hfF : Fr No w2 wr := f3.transNew hf fun i hi => by have hi : i = g3 := hi; rw [hi, HG3.out]; exact Nat.le_refl _
    obtain ⟨⟨e0, e1, e2, e3, e4, e5, e6, e7, e8, e9⟩, ⟨s0, s1, s2, s3, s4, s5, s6, s7⟩⟩ := HKA.out _ hfF
    by_cases hlt : k < mt
    · have b1 : decide (k < mt) = true := decide_eq_true hlt
      have b2 : decide ((k : Int) < (mt : Int)) = true := decide_eq_true (by omega)
      obtain ⟨b, t, rfl, hbG, hbl, hok, hcl⟩ := HTEN.out k hlt
      obtain ⟨bt, xa, xb, xp, xl, xd, xg, xn, rfl, hbt, hcy⟩ := HCT.out k hlt
      obtain ⟨y0, y1, y2, y3, y4, y5, y6⟩ := hcy _ (fW.transNo hfF)
      obtain ⟨r0, r1, r2, r3, r4, r5, r6, r7, r8, r9, r10, r11⟩ := hcl _ (fW.transNo hfF)
      have hix : (0 : Int) ≤ (k : Int) ∧ (k : Int) < (mt : Int) := by omega
      have HI := Lib.hid hI
      have HFF := Lib.hid hf
      obtain ⟨pl, sh, hm, sb, nx, tg, ep, wc, we, wv, wf, wu⟩ := t
      simp only at *
      have hro : ∀ V, Fr No wr V → (V.cell? ⟨b, k * 12, none⟩ = some (.bool pl) ∧ V.cell? ⟨b, k * 12 + 1, none⟩ = some (.bool sh) ∧ V.cell? ⟨b, k * 12 + 2, none⟩ = some (.int .i64 hm) ∧ V.cell? ⟨b, k * 12 + 3, none⟩ = some (.int .i64 sb) ∧ V.cell? ⟨b, k * 12 + 4, none⟩ = some (.int .i64 nx) ∧ V.cell? ⟨b, k * 12 + 5, none⟩ = some (.int .i64 tg) ∧ V.cell? ⟨b, k * 12 + 6, none⟩ = some (.int .i64 ep) ∧ V.cell? ⟨b, k * 12 + 7, none⟩ = some (.int .i64 wc) ∧ V.cell? ⟨b, k * 12 + 8, none⟩ = some (.int .i64 we) ∧ V.cell? ⟨b, k * 12 + 9, none⟩ = some (.int .i64 wv) ∧ V.cell? ⟨b, k * 12 + 10, none⟩ = some (.int .i64 wf) ∧ V.cell? ⟨b, k * 12 + 11, none⟩ = some (.int .i64 wu)) ∧ (V.cell? ⟨bt, k * 7, none⟩ = some (.int .i64 xa) ∧ V.cell? ⟨bt, k * 7 + 1, none⟩ = some (.int .i64 xb) ∧ V.cell? ⟨bt, k * 7 + 2, none⟩ = some (.int .i64 xp) ∧ V.cell? ⟨bt, k * 7 + 3, none⟩ = some (.int .i64 xl) ∧ V.cell? ⟨bt, k * 7 + 4, none⟩ = some (.int .i64 xd) ∧ V.cell? ⟨bt, k * 7 + 5, none⟩ = some (.int .i64 xg) ∧ V.cell? ⟨bt, k * 7 + 6, none⟩ = some (.bool xn)) := fun V hV => ⟨hcl V (fW.transNo (hfF.transNo hV)), hcy V (fW.transNo (hfF.transNo hV))⟩
      have hkb : ∀ V, Fr No wr V → V.cell? ⟨g1, 3, none⟩ = some (.slice (some ⟨bt, 0, none⟩) mt ct) ∧ V.cell? ⟨g2, 2, none⟩ = some (.slice (some ⟨b, 0, none⟩) mt dt) := fun V hV => let k := HKA.out V (hfF.transNo hV); ⟨k.1.2.2.2.1, k.2.2.2.1⟩
      clear hI hf hcy hcl hok
      have HRO := Lib.hid hro
      have HKB := Lib.hid hkb
      clear hro hkb
      go_upto_region 5 with fail
      go_cut [7, 8] from 20 to 29 (fun x y wx => TD wr #[.bool pl, .bool sh, .int .i64 hm, .int .i64 sb, .int .i64 nx, .int .i64 tg, .int .i64 ep, .int .i64 wc, .int .i64 we, .int .i64 wv, .int .i64 wf, .int .i64 wu] #[.int .i64 xa, .int .i64 xb, .int .i64 xp, .int .i64 xl, .int .i64 xd, .int .i64 xg, .bool xn] x y wx)
      case first =>
       go_region_held3 (fun V => (V.cell? ⟨b, k * 12, none⟩ = some (.bool pl) ∧ V.cell? ⟨b, k * 12 + 1, none⟩ = some (.bool sh) ∧ V.cell? ⟨b, k * 12 + 2, none⟩ = some (.int .i64 hm) ∧ V.cell? ⟨b, k * 12 + 3, none⟩ = some (.int .i64 sb) ∧ V.cell? ⟨b, k * 12 + 4, none⟩ = some (.int .i64 nx) ∧ V.cell? ⟨b, k * 12 + 5, none⟩ = some (.int .i64 tg) ∧ V.cell? ⟨b, k * 12 + 6, none⟩ = some (.int .i64 ep) ∧ V.cell? ⟨b, k * 12 + 7, none⟩ = some (.int .i64 wc) ∧ V.cell? ⟨b, k * 12 + 8, none⟩ = some (.int .i64 we) ∧ V.cell? ⟨b, k * 12 + 9, none⟩ = some (.int .i64 wv) ∧ V.cell? ⟨b, k * 12 + 10, none⟩ = some (.int .i64 wf) ∧ V.cell? ⟨b, k * 12 + 11, none⟩ = some (.int .i64 wu)) ∧ (V.cell? ⟨bt, k * 7, none⟩ = some (.int .i64 xa) ∧ V.cell? ⟨bt, k * 7 + 1, none⟩ = some (.int .i64 xb) ∧ V.cell? ⟨bt, k * 7 + 2, none⟩ = some (.int .i64 xp) ∧ V.cell? ⟨bt, k * 7 + 3, none⟩ = some (.int .i64 xl) ∧ V.cell? ⟨bt, k * 7 + 4, none⟩ = some (.int .i64 xd) ∧ V.cell? ⟨bt, k * 7 + 5, none⟩ = some (.int .i64 xg) ∧ V.cell? ⟨bt, k * 7 + 6, none⟩ = some (.bool xn)) ∧ V.cell? ⟨g1, 3, none⟩ = some (.slice (some ⟨bt, 0, none⟩) mt ct) ∧ V.cell? ⟨g2, 2, none⟩ = some (.slice (some ⟨b, 0, none⟩) mt dt)) (exact ⟨(HRO.out _ (by repeat (first | assumption | exact Fr.refl _ _ | refine Fr.alloc ?_ _ | refine Fr.drew ?_ | refine Fr.drewN ?_ _))).1, (HRO.out _ (by repeat (first | assumption | exact Fr.refl _ _ | refine Fr.alloc ?_ _ | refine Fr.drew ?_ | refine Fr.drewN ?_ _))).2, HKB.out _ (by repeat (first | assumption | exact Fr.refl _ _ | refine Fr.alloc ?_ _ | refine Fr.drew ?_ | refine Fr.drewN ?_ _))⟩) (first
        | (go_at_call 89; skip))
       all_goals go_wp2_with fail
       all_goals go_meet
       all_goals first | exact TD.one _ _ _ | exact TD.two _ _ _
      case rest =>
       obtain ⟨gt, gd, rfl, rfl, hbt2, hbd, fc, hgt, hgd⟩ := hcut
       have hrel := HI.out
       have hIc : IntB wc g3 ms := HI.out.fr fc (fun h => h)
       have fF : Fr (fun b => b = g3) w3 wc := HFF.out.afterNo fc
       clear hfF r0 r1 r2 r3 r4 r5 r6 r7 r8 r9 r10 r11 y0 y1 y2 y3 y4 y5 y6 e0 e1 e2 e3 e4 e5 e6 e7 e8 e9 s0 s1 s2 s3 s4 s5 s6 s7 hrel
       have hgl := hbt2.lt
       have hgl2 := hbd.lt
       have hne : gt ≠ g3 := fun h => by have := HI.out; obtain ⟨cur, q1, -⟩ := this; have := q1.lt; omega
       have hne2 : gd ≠ g3 := fun h => by have := HI.out; obtain ⟨cur, q1, -⟩ := this; have := q1.lt; omega
       have hTD : ∀ V, Fr (fun b => b = g3) wc V → (V.cell? ⟨gt, 0, none⟩ = some (.bool pl) ∧ V.cell? ⟨gt, 1, none⟩ = some (.bool sh) ∧ V.cell? ⟨gt, 2, none⟩ = some (.int .i64 hm) ∧ V.cell? ⟨gt, 3, none⟩ = some (.int .i64 sb) ∧ V.cell? ⟨gt, 4, none⟩ = some (.int .i64 nx) ∧ V.cell? ⟨gt, 5, none⟩ = some (.int .i64 tg)) ∧ V.cell? ⟨gd, 0, none⟩ = some (.int .i64 xa) ∧ V.cell? ⟨gd, 1, none⟩ = some (.int .i64 xb) := fun V hV => let k := hbt2.fr hV hne; let j := hbd.fr hV hne2; ⟨⟨k.cell 0, k.cell 1, k.cell 2, k.cell 3, k.cell 4, k.cell 5⟩, j.cell 0, j.cell 1⟩
       have hI0 := Lib.hid hIc
       have F0 := Lib.hid fF
       clear hIc fF fc hbt2 hbd hne hne2
       have HTD := Lib.hid hTD
       clear hTD
       obtain ⟨⟨r0, r1, r2, r3, r4, r5⟩, y0, y1⟩ := HTD.out wc (Fr.refl _ _)
       cases pl with
       | false =>
         go_wp2_with fail
         go_roundw
         case rel => exact ⟨k + 1, by omega, by go_num, hI0.out, F0.out⟩
         case measure => simp [intOf]; omega
       | true =>
         have E0 := Lib.hid (Fr.refl (fun b => b = g3) wc)
         have I0 := hI0
         cases sh with
         | false =>
           go_wp2_with fail
           refine (addm_any I0.out hnc2 _ _).mono ?_
           rintro e v1 ⟨rfl, hi1, hf1⟩
           have I1 := Lib.hid hi1
           have F1 := Lib.hid (F0.out.transSame hf1)
           have E1 := Lib.hid (E0.out.transSame hf1)
           clear hi1 hf1 r0 r1 r2 r3 r4 r5 y0 y1
           obtain ⟨⟨r0, r1, r2, r3, r4, r5⟩, y0, y1⟩ := HTD.out v1 E1.out
           go_wp2_with fail
           refine (addm_any I1.out hnc2 _ _).mono ?_
           rintro e v2 ⟨rfl, hi2, hf2⟩
           have I2 := Lib.hid hi2
           have F2 := Lib.hid (F1.out.transSame hf2)
           have E2 := Lib.hid (E1.out.transSame hf2)
           clear hi2 hf2 r0 r1 r2 r3 r4 r5 y0 y1
           obtain ⟨⟨r0, r1, r2, r3, r4, r5⟩, y0, y1⟩ := HTD.out v2 E2.out
           go_wp2_with fail
           refine (addm_any I2.out hnc2 _ _).mono ?_
           rintro e v3 ⟨rfl, hi3, hf3⟩
           have I3 := Lib.hid hi3
           have F3 := Lib.hid (F2.out.transSame hf3)
           have E3 := Lib.hid (E2.out.transSame hf3)
           clear hi3 hf3 r0 r1 r2 r3 r4 r5 y0 y1
           obtain ⟨⟨r0, r1, r2, r3, r4, r5⟩, y0, y1⟩ := HTD.out v3 E3.out
           go_wp2_with fail
           refine (addm_any I3.out hnc2 _ _).mono ?_
           rintro e v4 ⟨rfl, hi4, hf4⟩
           have I4 := Lib.hid hi4
           have F4 := Lib.hid (F3.out.transSame hf4)
           have E4 := Lib.hid (E3.out.transSame hf4)
           clear hi4 hf4 r0 r1 r2 r3 r4 r5 y0 y1
           obtain ⟨⟨r0, r1, r2, r3, r4, r5⟩, y0, y1⟩ := HTD.out v4 E4.out
           go_wp2_with fail
           go_roundw
           case rel => exact ⟨k + 1, by omega, by go_num, I4.out, F4.out⟩
           case measure => simp [intOf]; omega
         | true =>
           go_wp2_with fail
           refine (addm_any I0.out hnc2 _ _).mono ?_
           rintro e v1 ⟨rfl, hi1, hf1⟩
           have I1 := Lib.hid hi1
           have F1 := Lib.hid (F0.out.transSame hf1)
           have E1 := Lib.hid (E0.out.transSame hf1)
           clear hi1 hf1 r0 r1 r2 r3 r4 r5 y0 y1
           obtain ⟨⟨r0, r1, r2, r3, r4, r5⟩, y0, y1⟩ := HTD.out v1 E1.out
           go_wp2_with fail
           refine (addm_any I1.out hnc2 _ _).mono ?_
           rintro e v2 ⟨rfl, hi2, hf2⟩
           have I2 := Lib.hid hi2
           have F2 := Lib.hid (F1.out.transSame hf2)
           have E2 := Lib.hid (E1.out.transSame hf2)
           clear hi2 hf2 r0 r1 r2 r3 r4 r5 y0 y1
           obtain ⟨⟨r0, r1, r2, r3, r4, r5⟩, y0, y1⟩ := HTD.out v2 E2.out
           go_wp2_with fail
           go_roundw
           case rel => exact ⟨k + 1, by omega, by go_num, I2.out, F2.out⟩
           case measure => simp [intOf]; omega
    · obtain rfl : k = mt := by omega
      have b1 : decide (k < k) = false := by simp
      have b2 : decide ((k : Int) < (k : Int)) = false := by simp
      have T9 := Lib.hid hI
      have fw := (fW.transNo f3).transNew hf fun i hi => by have hi : i = g3 := hi; rw [hi]; exact hg3l
      clear hI
      go_wp2_with fail
      go_ret
      exact ⟨g3, ms, rfl, hg3l, T9.out, fw⟩
end Go.Proofs.YtanhbebikcoliaaDoor
/- States of the control log: what fits; grants. -/
namespace Go.Proofs.YtanhbebikcoliaaDoor
open Go.ChangeShapes Go.WideShapes Go.ChangeAt Go.RowKit
set_option linter.unusedVariables false
set_option maxRecDepth 100000 in
set_option maxHeartbeats 8000000 in
theorem over_any {w : World} {G : Nat → Prop} {c : Cf} {s : St} (h : CfOk w c) (hs : StOk w G c s) : Calls Tryd.prog 87 #[.agg c.arr, .agg s.arr] w (IntLTo w 16) := by
  obtain ⟨i1, hi1, hz0, hz1, hz2⟩ := infom intm_info
  have hms := hs.ms
  have hmt := hs.mt
  have hnc2 := h.nc2
  have hbk := fun W (hf : Fr No w W) => booked_any (h.frNo hf) (hs.frNo hf)
  have hce := h.cell
  have hbc := h.bcl
  obtain ⟨rg, nz, nc, nt, nv, le, bk, bz, bc, bv, cz, cc, ct, cv, At, Ar, nr, cr, Ao, no_, co, bl⟩ := c
  obtain ⟨tk, cn, Bt, mt, dt, Bs, ms, ds, pr, ev, lo, hi⟩ := s
  simp only at *
  subst hms hmt
  have hcl : ∀ V, Fr No w V → ∀ i, i < ms → ∃ (z a : Int), V.cell? ⟨bc, i * 2, none⟩ = some (.int .i64 z) ∧ V.cell? ⟨bc, i * 2 + 1, none⟩ = some (.int .i64 a) := fun V hV i hi => by
    obtain ⟨z, a, h1, h2, h3⟩ := hce i hi
    exact ⟨z, a, (hV.cell (p := ⟨bc, i * 2, none⟩) hbc (fun h => h)).trans h2, (hV.cell (p := ⟨bc, i * 2 + 1, none⟩) hbc (fun h => h)).trans h3⟩
  clear h hs hce
  obtain ⟨w1, hw1⟩ : ∃ w1, w1 = w.alloc (.cells #[.int .i64 (rg : Int), .slice (some ⟨bz, 0, none⟩) nz cz, .slice (some ⟨bc, 0, none⟩) ms cc, .slice At mt ct, .slice (some ⟨bv, 0, none⟩) nv cv, .slice Ar nr cr, .slice Ao no_ co, .int .i64 bl, .int .i64 (le : Int), .int .i64 (bk : Int)] TCf) := ⟨_, rfl⟩
  obtain ⟨g1, hg1⟩ : ∃ g1, g1 = w.heap.size := ⟨_, rfl⟩
  have hb1 : Blk w1 g1 TCf #[.int .i64 (rg : Int), .slice (some ⟨bz, 0, none⟩) nz cz, .slice (some ⟨bc, 0, none⟩) ms cc, .slice At mt ct, .slice (some ⟨bv, 0, none⟩) nv cv, .slice Ar nr cr, .slice Ao no_ co, .int .i64 bl, .int .i64 (le : Int), .int .i64 (bk : Int)] := by rw [hw1, hg1]; exact Blk.new _ _ _
  have f1 : Fr No w w1 := by rw [hw1]; exact fr_alloc _ _
  have hs1 : w1.heap.size = g1 + 1 := by rw [hw1, hg1]; simp
  obtain ⟨w2, hw2⟩ : ∃ w2, w2 = w1.alloc (.cells #[.int .i64 tk, .int .i64 cn, .slice Bt mt dt, .slice Bs ms ds, .int .i64 pr, .int .i64 ev, .int .i64 lo, .int .i64 hi] TSt) := ⟨_, rfl⟩
  obtain ⟨g2, hg2⟩ : ∃ g2, g2 = w1.heap.size := ⟨_, rfl⟩
  have hb2 : Blk w2 g2 TSt #[.int .i64 tk, .int .i64 cn, .slice Bt mt dt, .slice Bs ms ds, .int .i64 pr, .int .i64 ev, .int .i64 lo, .int .i64 hi] := by rw [hw2, hg2]; exact Blk.new _ _ _
  have f2 : Fr No w1 w2 := by rw [hw2]; exact fr_alloc _ _
  have hs2 : w2.heap.size = g2 + 1 := by rw [hw2, hg2]; simp
  have hB1 : Blk w2 g1 TCf #[.int .i64 (rg : Int), .slice (some ⟨bz, 0, none⟩) nz cz, .slice (some ⟨bc, 0, none⟩) ms cc, .slice At mt ct, .slice (some ⟨bv, 0, none⟩) nv cv, .slice Ar nr cr, .slice Ao no_ co, .int .i64 bl, .int .i64 (le : Int), .int .i64 (bk : Int)] := hb1.fr ((Fr.refl No _).transNo f2) (fun h => h)
  have hB2 : Blk w2 g2 TSt #[.int .i64 tk, .int .i64 cn, .slice Bt mt dt, .slice Bs ms ds, .int .i64 pr, .int .i64 ev, .int .i64 lo, .int .i64 hi] := hb2.fr (Fr.refl No _) (fun h => h)
  have fW : Fr No w w2 := ((Fr.refl No w).transNo f1).transNo f2
  have he2 : g2 = g1 + 1 := by rw [hg2, hs1]
  have hka : ∀ V, Fr No w2 V → (V.cell? ⟨g1, 0, none⟩ = some (.int .i64 (rg : Int)) ∧ V.cell? ⟨g1, 1, none⟩ = some (.slice (some ⟨bz, 0, none⟩) nz cz) ∧ V.cell? ⟨g1, 2, none⟩ = some (.slice (some ⟨bc, 0, none⟩) ms cc) ∧ V.cell? ⟨g1, 3, none⟩ = some (.slice At mt ct) ∧ V.cell? ⟨g1, 4, none⟩ = some (.slice (some ⟨bv, 0, none⟩) nv cv) ∧ V.cell? ⟨g1, 5, none⟩ = some (.slice Ar nr cr) ∧ V.cell? ⟨g1, 6, none⟩ = some (.slice Ao no_ co) ∧ V.cell? ⟨g1, 7, none⟩ = some (.int .i64 bl) ∧ V.cell? ⟨g1, 8, none⟩ = some (.int .i64 (le : Int)) ∧ V.cell? ⟨g1, 9, none⟩ = some (.int .i64 (bk : Int))) ∧ (V.cell? ⟨g2, 0, none⟩ = some (.int .i64 tk) ∧ V.cell? ⟨g2, 1, none⟩ = some (.int .i64 cn) ∧ V.cell? ⟨g2, 2, none⟩ = some (.slice Bt mt dt) ∧ V.cell? ⟨g2, 3, none⟩ = some (.slice Bs ms ds) ∧ V.cell? ⟨g2, 4, none⟩ = some (.int .i64 pr) ∧ V.cell? ⟨g2, 5, none⟩ = some (.int .i64 ev) ∧ V.cell? ⟨g2, 6, none⟩ = some (.int .i64 lo) ∧ V.cell? ⟨g2, 7, none⟩ = some (.int .i64 hi)) := fun V hf => ⟨(let k := hB1.fr hf (fun h => h); ⟨k.cell 0, k.cell 1, k.cell 2, k.cell 3, k.cell 4, k.cell 5, k.cell 6, k.cell 7, k.cell 8, k.cell 9⟩), (let k := hB2.fr hf (fun h => h); ⟨k.cell 0, k.cell 1, k.cell 2, k.cell 3, k.cell 4, k.cell 5, k.cell 6, k.cell 7⟩)⟩
  have hW : w2 = (w.alloc (.cells #[.int .i64 (rg : Int), .slice (some ⟨bz, 0, none⟩) nz cz, .slice (some ⟨bc, 0, none⟩) ms cc, .slice At mt ct, .slice (some ⟨bv, 0, none⟩) nv cv, .slice Ar nr cr, .slice Ao no_ co, .int .i64 bl, .int .i64 (le : Int), .int .i64 (bk : Int)] TCf)).alloc (.cells #[.int .i64 tk, .int .i64 cn, .slice Bt mt dt, .slice Bs ms ds, .int .i64 pr, .int .i64 ev, .int .i64 lo, .int .i64 hi] TSt) := by rw [hw2, hw1]
  have hl1 : g1 < w2.heap.size := hB1.lt
  have hl2 : g2 < w2.heap.size := hB2.lt
  clear hw1 hb1 hs1 hw2 hb2 hs2
  have HG1 := Lib.hid hg1
  have HG2 := Lib.hid hg2
  have HE2 := Lib.hid he2
  clear hg1 hg2 he2
  have HBK := Lib.hid hbk
  have HCL := Lib.hid hcl
  have HKA := Lib.hid hka
  have HW := Lib.hid hW
  clear hbk hcl hka hW
  go_enter Tryd.func87, Tryd.ntmps87
  go_upto_region 1 with fail
  rw [← HW.out]
  try rw [← show g2 = w.heap.size + 1 from by rw [HE2.out, HG1.out]]
  try rw [← HG1.out]
  obtain ⟨⟨e0, e1, e2, e3, e4, e5, e6, e7, e8, e9⟩, ⟨s0, s1, s2, s3, s4, s5, s6, s7⟩⟩ := HKA.out w2 (Fr.refl _ _)
  go_wp2_with fail
  refine (HBK.out _ fW).mono ?_
  rintro e w3 ⟨b, cb, rfl, hbl, hI, f3⟩
  have HI := Lib.hid hI
  have F3 := Lib.hid f3
  clear hI f3 e0 e1 e2 e3 e4 e5 e6 e7 e8 e9 s0 s1 s2 s3 s4 s5 s6 s7
  go_wp2_with fail
  go_loopw [5, 7] (fun v i wr => ∃ k : Nat, k ≤ ms ∧ i = .int .i64 k ∧ IntL w3 k v wr) (fun _ i _ => ms - (intOf i).toNat)
  case atStart => exact ⟨0, Nat.zero_le _, rfl, IntL.nil _ _⟩
  case round =>
    obtain ⟨k, hk, rfl, l, A, c, hl, rfl, ho, hf⟩ := hrel
    obtain ⟨⟨e0, e1, e2, e3, e4, e5, e6, e7, e8, e9⟩, ⟨s0, s1, s2, s3, s4, s5, s6, s7⟩⟩ := HKA.out _ (F3.out.transNo hf)
    by_cases hlt : k < ms
    · have b1 : decide (k < ms) = true := decide_eq_true hlt
      have b2 : decide ((k : Int) < (ms : Int)) = true := decide_eq_true (by omega)
      have hix : (0 : Int) ≤ (k : Int) ∧ (k : Int) < (ms : Int) := by omega
      obtain ⟨z, a, z0, z1⟩ := HCL.out _ (fW.transNo (F3.out.transNo hf)) k hlt
      obtain ⟨y, hy⟩ : ∃ y : Int, wr.cell? ⟨b, k, none⟩ = some (.int .i64 y) := by
        obtain ⟨cur, q1, q2⟩ := HI.out.fr hf (fun h => h)
        obtain ⟨y, hy⟩ := q2 k hlt
        exact ⟨y, (q1.cell k).trans hy⟩
      have hend := fun W' (hW : Fr No wr W') => (IntL.frNo ⟨l, A, c, hl, rfl, ho, hf⟩ hW : IntL w3 k (.slice A l.length c) W')
      have how := fun W' (hW : Fr No wr W') => ho.frNo hW
      have HEND := Lib.hid hend
      have HOW := Lib.hid how
      clear hend how
      clear ho
      go_upto_region 6 with fail
      go_cut [27] from 17 to 27 (fun x wx => (∃ B : Bool, x = .bool B) ∧ Fr No wr wx)
      case first =>
        go_region
        go_wp2_with fail
        go_meet
        exact ⟨⟨_, rfl⟩, (by repeat (first | assumption | exact Fr.refl _ _ | refine Fr.alloc ?_ _ | refine Fr.drew ?_ | refine Fr.drewN ?_ _))⟩
      case rest =>
        obtain ⟨⟨B, rfl⟩, f2⟩ := hcut
        clear z0 z1 hy e0 e1 e2 e3 e4 e5 e6 e7 e8 e9 s0 s1 s2 s3 s4 s5 s6 s7
        rcases B with _ | _
        · go_wp2_with fail
          go_roundw
          case rel => exact ⟨k + 1, by omega, by go_num, (HEND.out _ (by repeat (first | assumption | exact Fr.refl _ _ | refine Fr.alloc ?_ _ | refine Fr.drew ?_ | refine Fr.drewN ?_ _))).more (Nat.le_succ _)⟩
          case measure => simp [intOf]; omega
        · have hl2 := l.length_map (f := fun i : Int => (Value.int .i64 i))
          go_wp2_with (at_builtin; refine wpList_append_rd _ rfl (.tmp 28) (.tmp 30) _ rfl 0 TIm i1 _ 8 Tryd.underlying22 hi1 hz0 hz1 hz2 rfl (.slice A l.length c) l.length (ivL l) rfl ((HOW.out _ (f2.alloc _)).own (ivL_len l)) (wc.heap.size + 1) (some ⟨wc.heap.size, 0, none⟩) 1 1 [.int .i64 (k : Int)] rfl (fun h => by cases h) (Rd.new wc _ TIm rfl) rfl (fun u hu => by simp at hu; subst hu; rfl) (by unfold maxLen; omega) (by omega) (Nat.zero_le _) ?_)
          intro v1 w6 happ
          have T9 := Lib.hid (IntL.snoc hl (by omega) (HOW.out _ f2) (hf.transNo f2) happ)
          clear happ
          go_wp2_with fail
          go_roundw
          case rel => exact ⟨k + 1, by omega, by go_num, T9.out⟩
          case measure => simp [intOf]; omega
    · obtain rfl : k = ms := by omega
      have b1 : decide (k < k) = false := by simp
      have b2 : decide ((k : Int) < (k : Int)) = false := by simp
      have T9 := Lib.hid (show IntL w3 k (.slice A l.length c) wr from ⟨l, A, c, hl, rfl, ho, hf⟩)
      clear ho
      go_wp2_with fail
      go_ret
      exact ⟨_, rfl, (T9.out.since (fW.transNo F3.out)).more (by omega)⟩
/-- What a turn of a state answers: a state that fits where there is no error; only blocks of G are turned. -/
def StTo (w : World) (G H : Nat → Prop) (c : Cf) (e : Ending) (w' : World) : Prop := ∃ (s : St) (k : Int), e = .returned (.tuple #[.agg s.arr, .int .i64 k]) ∧ (k = 0 → StOk w' H c s) ∧ Fr G w w'
theorem StTo.no {w w' : World} {G H : Nat → Prop} {c : Cf} {k : Int} (hk : k ≠ 0) (h : Fr G w w') {s : St} {e : Ending} (he : e = .returned (.tuple #[.agg s.arr, .int .i64 k])) : StTo w G H c e w' := ⟨s, k, he, fun h => (hk h).elim, h⟩
set_option maxRecDepth 100000 in
set_option maxHeartbeats 8000000 in
theorem fit_any {w : World} {G : Nat → Prop} {c : Cf} {s : St} (h : CfOk w c) (hs : StOk w G c s) : Calls Tryd.prog 82 #[.agg c.arr, .agg s.arr] w (StTo w No G c) := by
  have hov := fun W (hf : Fr No w W) => over_any (h.frNo hf) (hs.frNo hf)
  have hst := fun W (hf : Fr No w W) => hs.frNo hf
  have hms := hs.ms
  have hmt := hs.mt
  obtain ⟨rg, nz, nc, nt, nv, le, bk, bz, bc, bv, cz, cc, ct, cv, At, Ar, nr, cr, Ao, no_, co, bl⟩ := c
  obtain ⟨tk, cn, Bt, mt, dt, Bs, ms, ds, pr, ev, lo, hi⟩ := s
  simp only at *
  subst hms hmt
  clear h hs
  obtain ⟨w1, hw1⟩ : ∃ w1, w1 = w.alloc (.cells #[.int .i64 (rg : Int), .slice (some ⟨bz, 0, none⟩) nz cz, .slice (some ⟨bc, 0, none⟩) ms cc, .slice At mt ct, .slice (some ⟨bv, 0, none⟩) nv cv, .slice Ar nr cr, .slice Ao no_ co, .int .i64 bl, .int .i64 (le : Int), .int .i64 (bk : Int)] TCf) := ⟨_, rfl⟩
  obtain ⟨g1, hg1⟩ : ∃ g1, g1 = w.heap.size := ⟨_, rfl⟩
  have hb1 : Blk w1 g1 TCf #[.int .i64 (rg : Int), .slice (some ⟨bz, 0, none⟩) nz cz, .slice (some ⟨bc, 0, none⟩) ms cc, .slice At mt ct, .slice (some ⟨bv, 0, none⟩) nv cv, .slice Ar nr cr, .slice Ao no_ co, .int .i64 bl, .int .i64 (le : Int), .int .i64 (bk : Int)] := by rw [hw1, hg1]; exact Blk.new _ _ _
  have f1 : Fr No w w1 := by rw [hw1]; exact fr_alloc _ _
  have hs1 : w1.heap.size = g1 + 1 := by rw [hw1, hg1]; simp
  obtain ⟨w2, hw2⟩ : ∃ w2, w2 = w1.alloc (.cells #[.int .i64 tk, .int .i64 cn, .slice Bt mt dt, .slice Bs ms ds, .int .i64 pr, .int .i64 ev, .int .i64 lo, .int .i64 hi] TSt) := ⟨_, rfl⟩
  obtain ⟨g2, hg2⟩ : ∃ g2, g2 = w1.heap.size := ⟨_, rfl⟩
  have hb2 : Blk w2 g2 TSt #[.int .i64 tk, .int .i64 cn, .slice Bt mt dt, .slice Bs ms ds, .int .i64 pr, .int .i64 ev, .int .i64 lo, .int .i64 hi] := by rw [hw2, hg2]; exact Blk.new _ _ _
  have f2 : Fr No w1 w2 := by rw [hw2]; exact fr_alloc _ _
  have hs2 : w2.heap.size = g2 + 1 := by rw [hw2, hg2]; simp
  obtain ⟨w3, hw3⟩ : ∃ w3, w3 = w2.alloc (.cells #[.int .i64 0, .int .i64 0, .slice none 0 0, .slice none 0 0, .int .i64 0, .int .i64 0, .int .i64 0, .int .i64 0] TSt) := ⟨_, rfl⟩
  obtain ⟨g3, hg3⟩ : ∃ g3, g3 = w2.heap.size := ⟨_, rfl⟩
  have hb3 : Blk w3 g3 TSt #[.int .i64 0, .int .i64 0, .slice none 0 0, .slice none 0 0, .int .i64 0, .int .i64 0, .int .i64 0, .int .i64 0] := by rw [hw3, hg3]; exact Blk.new _ _ _
  have f3 : Fr No w2 w3 := by rw [hw3]; exact fr_alloc _ _
  have hs3 : w3.heap.size = g3 + 1 := by rw [hw3, hg3]; simp
  have hB1 : Blk w3 g1 TCf #[.int .i64 (rg : Int), .slice (some ⟨bz, 0, none⟩) nz cz, .slice (some ⟨bc, 0, none⟩) ms cc, .slice At mt ct, .slice (some ⟨bv, 0, none⟩) nv cv, .slice Ar nr cr, .slice Ao no_ co, .int .i64 bl, .int .i64 (le : Int), .int .i64 (bk : Int)] := hb1.fr (((Fr.refl No _).transNo f2).transNo f3) (fun h => h)
  have hB2 : Blk w3 g2 TSt #[.int .i64 tk, .int .i64 cn, .slice Bt mt dt, .slice Bs ms ds, .int .i64 pr, .int .i64 ev, .int .i64 lo, .int .i64 hi] := hb2.fr ((Fr.refl No _).transNo f3) (fun h => h)
  have hB3 : Blk w3 g3 TSt #[.int .i64 0, .int .i64 0, .slice none 0 0, .slice none 0 0, .int .i64 0, .int .i64 0, .int .i64 0, .int .i64 0] := hb3.fr (Fr.refl No _) (fun h => h)
  have fW : Fr No w w3 := (((Fr.refl No w).transNo f1).transNo f2).transNo f3
  have he2 : g2 = g1 + 1 := by rw [hg2, hs1]
  have he3 : g3 = g1 + 2 := by rw [hg3, hs2]; rw [he2]
  have hka : ∀ V, Fr No w3 V → (V.cell? ⟨g1, 0, none⟩ = some (.int .i64 (rg : Int)) ∧ V.cell? ⟨g1, 1, none⟩ = some (.slice (some ⟨bz, 0, none⟩) nz cz) ∧ V.cell? ⟨g1, 2, none⟩ = some (.slice (some ⟨bc, 0, none⟩) ms cc) ∧ V.cell? ⟨g1, 3, none⟩ = some (.slice At mt ct) ∧ V.cell? ⟨g1, 4, none⟩ = some (.slice (some ⟨bv, 0, none⟩) nv cv) ∧ V.cell? ⟨g1, 5, none⟩ = some (.slice Ar nr cr) ∧ V.cell? ⟨g1, 6, none⟩ = some (.slice Ao no_ co) ∧ V.cell? ⟨g1, 7, none⟩ = some (.int .i64 bl) ∧ V.cell? ⟨g1, 8, none⟩ = some (.int .i64 (le : Int)) ∧ V.cell? ⟨g1, 9, none⟩ = some (.int .i64 (bk : Int))) ∧ (V.cell? ⟨g2, 0, none⟩ = some (.int .i64 tk) ∧ V.cell? ⟨g2, 1, none⟩ = some (.int .i64 cn) ∧ V.cell? ⟨g2, 2, none⟩ = some (.slice Bt mt dt) ∧ V.cell? ⟨g2, 3, none⟩ = some (.slice Bs ms ds) ∧ V.cell? ⟨g2, 4, none⟩ = some (.int .i64 pr) ∧ V.cell? ⟨g2, 5, none⟩ = some (.int .i64 ev) ∧ V.cell? ⟨g2, 6, none⟩ = some (.int .i64 lo) ∧ V.cell? ⟨g2, 7, none⟩ = some (.int .i64 hi)) ∧ (V.cell? ⟨g3, 0, none⟩ = some (.int .i64 0) ∧ V.cell? ⟨g3, 1, none⟩ = some (.int .i64 0) ∧ V.cell? ⟨g3, 2, none⟩ = some (.slice none 0 0) ∧ V.cell? ⟨g3, 3, none⟩ = some (.slice none 0 0) ∧ V.cell? ⟨g3, 4, none⟩ = some (.int .i64 0) ∧ V.cell? ⟨g3, 5, none⟩ = some (.int .i64 0) ∧ V.cell? ⟨g3, 6, none⟩ = some (.int .i64 0) ∧ V.cell? ⟨g3, 7, none⟩ = some (.int .i64 0)) := fun V hf => ⟨(let k := hB1.fr hf (fun h => h); ⟨k.cell 0, k.cell 1, k.cell 2, k.cell 3, k.cell 4, k.cell 5, k.cell 6, k.cell 7, k.cell 8, k.cell 9⟩), (let k := hB2.fr hf (fun h => h); ⟨k.cell 0, k.cell 1, k.cell 2, k.cell 3, k.cell 4, k.cell 5, k.cell 6, k.cell 7⟩), (let k := hB3.fr hf (fun h => h); ⟨k.cell 0, k.cell 1, k.cell 2, k.cell 3, k.cell 4, k.cell 5, k.cell 6, k.cell 7⟩)⟩
  have hW : w3 = ((w.alloc (.cells #[.int .i64 (rg : Int), .slice (some ⟨bz, 0, none⟩) nz cz, .slice (some ⟨bc, 0, none⟩) ms cc, .slice At mt ct, .slice (some ⟨bv, 0, none⟩) nv cv, .slice Ar nr cr, .slice Ao no_ co, .int .i64 bl, .int .i64 (le : Int), .int .i64 (bk : Int)] TCf)).alloc (.cells #[.int .i64 tk, .int .i64 cn, .slice Bt mt dt, .slice Bs ms ds, .int .i64 pr, .int .i64 ev, .int .i64 lo, .int .i64 hi] TSt)).alloc (.cells #[.int .i64 0, .int .i64 0, .slice none 0 0, .slice none 0 0, .int .i64 0, .int .i64 0, .int .i64 0, .int .i64 0] TSt) := by rw [hw3, hw2, hw1]
  have hl1 : g1 < w3.heap.size := hB1.lt
  have hl2 : g2 < w3.heap.size := hB2.lt
  have hl3 : g3 < w3.heap.size := hB3.lt
  clear hw1 hb1 hs1 hw2 hb2 hs2 hw3 hb3 hs3
  have HG1 := Lib.hid hg1
  have HG2 := Lib.hid hg2
  have HG3 := Lib.hid hg3
  have HE2 := Lib.hid he2
  have HE3 := Lib.hid he3
  clear hg1 hg2 hg3 he2 he3
  have HOV := Lib.hid hov
  have HST := Lib.hid hst
  have HKA := Lib.hid hka
  have HW := Lib.hid hW
  have HB1 := Lib.hid hB1
  have HB2 := Lib.hid hB2
  clear hov hst hka hW hB1 hB2
  go_enter Tryd.func82, Tryd.ntmps82
  go_upto_region 1 with fail
  rw [← HW.out]
  try rw [← show g3 = w.heap.size + 2 from by rw [HE3.out, HG1.out]]
  try rw [← show g2 = w.heap.size + 1 from by rw [HE2.out, HG1.out]]
  try rw [← HG1.out]
  obtain ⟨⟨e0, e1, e2, e3, e4, e5, e6, e7, e8, e9⟩, ⟨s0, s1, s2, s3, s4, s5, s6, s7⟩, ⟨z0, z1, z2, z3, z4, z5, z6, z7⟩⟩ := HKA.out w3 (Fr.refl _ _)
  go_wp2_with fail
  refine (HOV.out _ fW).mono ?_
  rintro e w4 ⟨v, rfl, l, A, cl, hl, rfl, ho, f4⟩
  have hBz := hB3.fr f4 (fun h => h)
  have fz := fW.transNo f4
  clear ho e0 e1 e2 e3 e4 e5 e6 e7 e8 e9 s0 s1 s2 s3 s4 s5 s6 s7 z0 z1 z2 z3 z4 z5 z6 z7
  obtain ⟨⟨e0, e1, e2, e3, e4, e5, e6, e7, e8, e9⟩, ⟨s0, s1, s2, s3, s4, s5, s6, s7⟩, ⟨z0, z1, z2, z3, z4, z5, z6, z7⟩⟩ := HKA.out w4 f4
  have q0 := hBz.frozen 0
  have q1 := hBz.frozen 1
  have q2 := hBz.frozen 2
  have q3 := hBz.frozen 3
  have q4 := hBz.frozen 4
  have q5 := hBz.frozen 5
  have q6 := hBz.frozen 6
  have q7 := hBz.frozen 7
  have hg3l : w.heap.size ≤ g3 := by rw [HE3.out, HG1.out]; omega
  have HBZ := Lib.hid hBz
  have FZ := Lib.hid fz
  clear hBz fz
  generalize l.length = n at *
  by_cases hn : 0 < n
  · have b1 : decide (0 < n) = true := decide_eq_true hn
    have b2 : decide ((0 : Int) < (n : Int)) = true := decide_eq_true (by omega)
    go_wp2_with fail
    exact bodyPost_ret (v := .tuple #[.agg stZero.arr, .int .i64 10]) (fit_results stZero 10 g3 _ _ (st_fill (z := stZero) stZero HBZ.out) rfl rfl) rfl (StTo.no (by decide) (st_fill_fr stZero FZ.out hg3l) rfl)
  · have b1 : decide (0 < n) = false := decide_eq_false hn
    have b2 : decide ((0 : Int) < (n : Int)) = false := decide_eq_false (by omega)
    go_wp2_with fail
    have T9 := Lib.hid (st_fill_fr (q := g3) ⟨tk, cn, Bt, mt, dt, Bs, ms, ds, pr, ev, lo, hi⟩ FZ.out hg3l)
    exact bodyPost_ret (v := .tuple #[.agg (St.arr ⟨tk, cn, Bt, mt, dt, Bs, ms, ds, pr, ev, lo, hi⟩), .int .i64 0]) (fit_results ⟨tk, cn, Bt, mt, dt, Bs, ms, ds, pr, ev, lo, hi⟩ 0 g3 _ _ (st_fill (z := stZero) ⟨tk, cn, Bt, mt, dt, Bs, ms, ds, pr, ev, lo, hi⟩ HBZ.out) rfl rfl) rfl ⟨⟨tk, cn, Bt, mt, dt, Bs, ms, ds, pr, ev, lo, hi⟩, 0, rfl, fun _ => HST.out _ T9.out, T9.out⟩
def AnyE (w : World) (e : Ending) (w' : World) : Prop := ∃ k : Int, e = .returned (.int .i64 k) ∧ Fr No w w'
end Go.Proofs.YtanhbebikcoliaaDoor
/- States of the control log: the window of a grant. -/
namespace Go.Proofs.YtanhbebikcoliaaDoor
open Go.ChangeShapes Go.WideShapes Go.ChangeAt Go.RowKit
set_option linter.unusedVariables false
abbrev EnArr (e : En) : Array Value := #[.int .i64 e.kind, .int .i64 e.tick, .int .i64 e.tenant, .int .i64 e.cell, .int .i64 e.other, .int .i64 e.epoch, .int .i64 e.from_, .int .i64 e.until_, .int .i64 e.n]
set_option maxRecDepth 100000 in
set_option maxHeartbeats 8000000 in
theorem granted_any {w : World} {G : Nat → Prop} {c : Cf} {s : St} (hs : StOk w G c s) (e : En) (ht1 : 0 ≤ e.tenant) (ht2 : e.tenant < c.nt) (hc1 : 0 ≤ e.cell) (hc2 : e.cell < c.nc) :
    Calls Tryd.prog 83 #[.agg c.arr, .agg s.arr, .agg (EnArr e)] w (AnyE w) := by
  obtain ⟨i, hi, hil⟩ := nat_of ht1 ht2
  obtain ⟨j, hj, hjl⟩ := nat_of hc1 hc2
  obtain ⟨bt, t, h1, -, hbt, -, htr⟩ := hs.ten hil
  obtain ⟨bs, md, rn, wa, si, h2, -, hbs, -, -, hcr⟩ := hs.cell hjl
  have hms := hs.ms
  have hmt := hs.mt
  obtain ⟨rg, nz, nc, nt, nv, le, bk, bz, bc, bv, cz, cc, ct, cv, At, Ar, nr, cr, Ao, no_, co, bl⟩ := c
  obtain ⟨tk, cn, Bt, mt, dt, Bs, ms, ds, pr, ev, lo, hi⟩ := s
  obtain ⟨kd, et, tn, cl, ot, ep, fm, un, n⟩ := e
  obtain ⟨pl, sh, hm, sb, nx, tg, tp, wc_, we, wv, wf, wu⟩ := t
  simp only at *
  subst hms hmt
  subst h1 h2 hi hj
  have hix : (0 : Int) ≤ (i : Int) ∧ (i : Int) < (mt : Int) := by omega
  have hjx : (0 : Int) ≤ (j : Int) ∧ (j : Int) < (ms : Int) := by omega
  clear hs ht1 ht2 hc1 hc2
  obtain ⟨w1, hw1⟩ : ∃ w1, w1 = w.alloc (.cells #[.int .i64 (rg : Int), .slice (some ⟨bz, 0, none⟩) nz cz, .slice (some ⟨bc, 0, none⟩) ms cc, .slice At mt ct, .slice (some ⟨bv, 0, none⟩) nv cv, .slice Ar nr cr, .slice Ao no_ co, .int .i64 bl, .int .i64 (le : Int), .int .i64 (bk : Int)] TCf) := ⟨_, rfl⟩
  obtain ⟨g1, hg1⟩ : ∃ g1, g1 = w.heap.size := ⟨_, rfl⟩
  have hb1 : Blk w1 g1 TCf #[.int .i64 (rg : Int), .slice (some ⟨bz, 0, none⟩) nz cz, .slice (some ⟨bc, 0, none⟩) ms cc, .slice At mt ct, .slice (some ⟨bv, 0, none⟩) nv cv, .slice Ar nr cr, .slice Ao no_ co, .int .i64 bl, .int .i64 (le : Int), .int .i64 (bk : Int)] := by rw [hw1, hg1]; exact Blk.new _ _ _
  have f1 : Fr No w w1 := by rw [hw1]; exact fr_alloc _ _
  have hs1 : w1.heap.size = g1 + 1 := by rw [hw1, hg1]; simp
  obtain ⟨w2, hw2⟩ : ∃ w2, w2 = w1.alloc (.cells #[.int .i64 tk, .int .i64 cn, .slice (some ⟨bt, 0, none⟩) mt dt, .slice (some ⟨bs, 0, none⟩) ms ds, .int .i64 pr, .int .i64 ev, .int .i64 lo, .int .i64 hi] TSt) := ⟨_, rfl⟩
  obtain ⟨g2, hg2⟩ : ∃ g2, g2 = w1.heap.size := ⟨_, rfl⟩
  have hb2 : Blk w2 g2 TSt #[.int .i64 tk, .int .i64 cn, .slice (some ⟨bt, 0, none⟩) mt dt, .slice (some ⟨bs, 0, none⟩) ms ds, .int .i64 pr, .int .i64 ev, .int .i64 lo, .int .i64 hi] := by rw [hw2, hg2]; exact Blk.new _ _ _
  have f2 : Fr No w1 w2 := by rw [hw2]; exact fr_alloc _ _
  have hs2 : w2.heap.size = g2 + 1 := by rw [hw2, hg2]; simp
  obtain ⟨w3, hw3⟩ : ∃ w3, w3 = w2.alloc (.cells #[.int .i64 kd, .int .i64 et, .int .i64 (i : Int), .int .i64 (j : Int), .int .i64 ot, .int .i64 ep, .int .i64 fm, .int .i64 un, .int .i64 n] TEm) := ⟨_, rfl⟩
  obtain ⟨g3, hg3⟩ : ∃ g3, g3 = w2.heap.size := ⟨_, rfl⟩
  have hb3 : Blk w3 g3 TEm #[.int .i64 kd, .int .i64 et, .int .i64 (i : Int), .int .i64 (j : Int), .int .i64 ot, .int .i64 ep, .int .i64 fm, .int .i64 un, .int .i64 n] := by rw [hw3, hg3]; exact Blk.new _ _ _
  have f3 : Fr No w2 w3 := by rw [hw3]; exact fr_alloc _ _
  have hs3 : w3.heap.size = g3 + 1 := by rw [hw3, hg3]; simp
  have hB1 : Blk w3 g1 TCf #[.int .i64 (rg : Int), .slice (some ⟨bz, 0, none⟩) nz cz, .slice (some ⟨bc, 0, none⟩) ms cc, .slice At mt ct, .slice (some ⟨bv, 0, none⟩) nv cv, .slice Ar nr cr, .slice Ao no_ co, .int .i64 bl, .int .i64 (le : Int), .int .i64 (bk : Int)] := hb1.fr (((Fr.refl No _).transNo f2).transNo f3) (fun h => h)
  have hB2 : Blk w3 g2 TSt #[.int .i64 tk, .int .i64 cn, .slice (some ⟨bt, 0, none⟩) mt dt, .slice (some ⟨bs, 0, none⟩) ms ds, .int .i64 pr, .int .i64 ev, .int .i64 lo, .int .i64 hi] := hb2.fr ((Fr.refl No _).transNo f3) (fun h => h)
  have hB3 : Blk w3 g3 TEm #[.int .i64 kd, .int .i64 et, .int .i64 (i : Int), .int .i64 (j : Int), .int .i64 ot, .int .i64 ep, .int .i64 fm, .int .i64 un, .int .i64 n] := hb3.fr (Fr.refl No _) (fun h => h)
  have fW : Fr No w w3 := (((Fr.refl No w).transNo f1).transNo f2).transNo f3
  have he2 : g2 = g1 + 1 := by rw [hg2, hs1]
  have he3 : g3 = g1 + 2 := by rw [hg3, hs2]; rw [he2]
  have hka : ∀ V, Fr No w3 V → (V.cell? ⟨g1, 0, none⟩ = some (.int .i64 (rg : Int)) ∧ V.cell? ⟨g1, 1, none⟩ = some (.slice (some ⟨bz, 0, none⟩) nz cz) ∧ V.cell? ⟨g1, 2, none⟩ = some (.slice (some ⟨bc, 0, none⟩) ms cc) ∧ V.cell? ⟨g1, 3, none⟩ = some (.slice At mt ct) ∧ V.cell? ⟨g1, 4, none⟩ = some (.slice (some ⟨bv, 0, none⟩) nv cv) ∧ V.cell? ⟨g1, 5, none⟩ = some (.slice Ar nr cr) ∧ V.cell? ⟨g1, 6, none⟩ = some (.slice Ao no_ co) ∧ V.cell? ⟨g1, 7, none⟩ = some (.int .i64 bl) ∧ V.cell? ⟨g1, 8, none⟩ = some (.int .i64 (le : Int)) ∧ V.cell? ⟨g1, 9, none⟩ = some (.int .i64 (bk : Int))) ∧ (V.cell? ⟨g2, 0, none⟩ = some (.int .i64 tk) ∧ V.cell? ⟨g2, 1, none⟩ = some (.int .i64 cn) ∧ V.cell? ⟨g2, 2, none⟩ = some (.slice (some ⟨bt, 0, none⟩) mt dt) ∧ V.cell? ⟨g2, 3, none⟩ = some (.slice (some ⟨bs, 0, none⟩) ms ds) ∧ V.cell? ⟨g2, 4, none⟩ = some (.int .i64 pr) ∧ V.cell? ⟨g2, 5, none⟩ = some (.int .i64 ev) ∧ V.cell? ⟨g2, 6, none⟩ = some (.int .i64 lo) ∧ V.cell? ⟨g2, 7, none⟩ = some (.int .i64 hi)) ∧ (V.cell? ⟨g3, 0, none⟩ = some (.int .i64 kd) ∧ V.cell? ⟨g3, 1, none⟩ = some (.int .i64 et) ∧ V.cell? ⟨g3, 2, none⟩ = some (.int .i64 (i : Int)) ∧ V.cell? ⟨g3, 3, none⟩ = some (.int .i64 (j : Int)) ∧ V.cell? ⟨g3, 4, none⟩ = some (.int .i64 ot) ∧ V.cell? ⟨g3, 5, none⟩ = some (.int .i64 ep) ∧ V.cell? ⟨g3, 6, none⟩ = some (.int .i64 fm) ∧ V.cell? ⟨g3, 7, none⟩ = some (.int .i64 un) ∧ V.cell? ⟨g3, 8, none⟩ = some (.int .i64 n)) := fun V hf => ⟨(let k := hB1.fr hf (fun h => h); ⟨k.cell 0, k.cell 1, k.cell 2, k.cell 3, k.cell 4, k.cell 5, k.cell 6, k.cell 7, k.cell 8, k.cell 9⟩), (let k := hB2.fr hf (fun h => h); ⟨k.cell 0, k.cell 1, k.cell 2, k.cell 3, k.cell 4, k.cell 5, k.cell 6, k.cell 7⟩), (let k := hB3.fr hf (fun h => h); ⟨k.cell 0, k.cell 1, k.cell 2, k.cell 3, k.cell 4, k.cell 5, k.cell 6, k.cell 7, k.cell 8⟩)⟩
  have hW : w3 = ((w.alloc (.cells #[.int .i64 (rg : Int), .slice (some ⟨bz, 0, none⟩) nz cz, .slice (some ⟨bc, 0, none⟩) ms cc, .slice At mt ct, .slice (some ⟨bv, 0, none⟩) nv cv, .slice Ar nr cr, .slice Ao no_ co, .int .i64 bl, .int .i64 (le : Int), .int .i64 (bk : Int)] TCf)).alloc (.cells #[.int .i64 tk, .int .i64 cn, .slice (some ⟨bt, 0, none⟩) mt dt, .slice (some ⟨bs, 0, none⟩) ms ds, .int .i64 pr, .int .i64 ev, .int .i64 lo, .int .i64 hi] TSt)).alloc (.cells #[.int .i64 kd, .int .i64 et, .int .i64 (i : Int), .int .i64 (j : Int), .int .i64 ot, .int .i64 ep, .int .i64 fm, .int .i64 un, .int .i64 n] TEm) := by rw [hw3, hw2, hw1]
  have hl1 : g1 < w3.heap.size := hB1.lt
  have hl2 : g2 < w3.heap.size := hB2.lt
  have hl3 : g3 < w3.heap.size := hB3.lt
  clear hw1 hb1 hs1 hw2 hb2 hs2 hw3 hb3 hs3
  have HG1 := Lib.hid hg1
  have HG2 := Lib.hid hg2
  have HG3 := Lib.hid hg3
  have HE2 := Lib.hid he2
  have HE3 := Lib.hid he3
  clear hg1 hg2 hg3 he2 he3
  have hbt3 : bt < w3.heap.size := Nat.lt_of_lt_of_le hbt fW.size
  have hbs3 : bs < w3.heap.size := Nat.lt_of_lt_of_le hbs fW.size
  have htr2 := htr w3 fW
  have hcr2 := hcr w3 fW
  have HKA := Lib.hid hka
  have HW := Lib.hid hW
  clear hka hW
  clear htr hcr
  go_enter Tryd.func83, Tryd.ntmps83
  go_upto_region 1 with fail
  rw [← HW.out]
  try rw [← show g3 = w.heap.size + 2 from by rw [HE3.out, HG1.out]]
  try rw [← show g2 = w.heap.size + 1 from by rw [HE2.out, HG1.out]]
  try rw [← HG1.out]
  obtain ⟨⟨e0, e1, e2, e3, e4, e5, e6, e7, e8, e9⟩, ⟨s0, s1, s2, s3, s4, s5, s6, s7⟩, ⟨x0, x1, x2, x3, x4, x5, x6, x7, x8⟩⟩ := HKA.out w3 (Fr.refl _ _)
  obtain ⟨r0, r1, r2, r3, r4, r5, r6, r7, r8, r9, r10, r11⟩ := htr2
  obtain ⟨d0, d1, d2, d3⟩ := hcr2
  go_upto_region 3 with fail
  go_cut [7, 8, 9] from 10 to 26 (fun x y z wx => ∃ gt gc, ∃ B : Bool, x = .pointer (some ⟨gt, 0, none⟩) ∧ y = .pointer (some ⟨gc, 0, none⟩) ∧ z = .bool B ∧ Blk wx gt TTs #[.bool pl, .bool sh, .int .i64 hm, .int .i64 sb, .int .i64 nx, .int .i64 tg, .int .i64 tp, .int .i64 wc_, .int .i64 we, .int .i64 wv, .int .i64 wf, .int .i64 wu] ∧ Blk wx gc TCs #[.int .i64 md, .int .i64 (rn : Int), .int .i64 (wa : Int), .int .i64 si] ∧ Fr No w3 wx)
  case first =>
    go_wp2_with fail
    go_meet
    refine ⟨w3.heap.size, w3.heap.size + 1, _, rfl, rfl, rfl, ?_, ?_, (by repeat (first | assumption | exact Fr.refl _ _ | refine Fr.alloc ?_ _ | refine Fr.drew ?_ | refine Fr.drewN ?_ _))⟩
    · exact (Blk.new w3 TTs _).fr (fr_alloc _ _) (fun h => h)
    · exact Blk.newAt _ _ _ _ (by simp)
  case rest =>
    obtain ⟨gt, gc, B0, rfl, rfl, rfl, hgt, hgc, f4⟩ := hcut
    clear e0 e1 e2 e3 e4 e5 e6 e7 e8 e9 s0 s1 s2 s3 s4 s5 s6 s7 x0 x1 x2 x3 x4 x5 x6 x7 x8 r0 r1 r2 r3 r4 r5 r6 r7 r8 r9 r10 r11 d0 d1 d2 d3
    obtain ⟨⟨e0, e1, e2, e3, e4, e5, e6, e7, e8, e9⟩, ⟨s0, s1, s2, s3, s4, s5, s6, s7⟩, ⟨x0, x1, x2, x3, x4, x5, x6, x7, x8⟩⟩ := HKA.out _ f4
    have r2 : wc.cell? ⟨gt, 2, none⟩ = some (.int .i64 hm) := hgt.cell 2
    have r6 : wc.cell? ⟨gt, 6, none⟩ = some (.int .i64 tp) := hgt.cell 6
    have r11 : wc.cell? ⟨gt, 11, none⟩ = some (.int .i64 wu) := hgt.cell 11
    have d0 : wc.cell? ⟨gc, 0, none⟩ = some (.int .i64 md) := hgc.cell 0
    have d1 : wc.cell? ⟨gc, 1, none⟩ = some (.int .i64 (rn : Int)) := hgc.cell 1
    have d2 : wc.cell? ⟨gc, 2, none⟩ = some (.int .i64 (wa : Int)) := hgc.cell 2
    have F9 := Lib.hid (fW.transNo f4)
    clear hgt hgc f4 fW
    generalize wc = wz at *
    go_upto_region 4 with fail
    go_cut [27] from 28 to 39 (fun x wx => (∃ B : Bool, x = .bool B) ∧ wz = wx)
    case first =>
      all_goals rcases B0 with _ | _
      all_goals go_wp2_with fail
      all_goals go_meet
      all_goals exact ⟨⟨_, rfl⟩, rfl⟩
    obtain ⟨⟨B, rfl⟩, rfl⟩ := hcut
    rcases B with _ | _
    rotate_left
    · go_wp2_with fail
      go_ret
      exact ⟨_, rfl, F9.out⟩
    go_upto_region 6 with fail
    go_cut [40] from 41 to 68 (fun x wx => (∃ B : Bool, x = .bool B) ∧ wz = wx)
    case first =>
      obtain ⟨q0, hq0⟩ : ∃ q : Bool, (ep != tp) = q := ⟨_, rfl⟩
      obtain ⟨q1, hq1⟩ : ∃ q : Bool, (ep != wrap64 (tp + 1)) = q := ⟨_, rfl⟩
      all_goals rcases q0 with _ | _
      all_goals rcases q1 with _ | _
      all_goals rcases B0 with _ | _
      all_goals go_wp2_with fail
      all_goals go_meet
      all_goals exact ⟨⟨_, rfl⟩, rfl⟩
    obtain ⟨⟨B, rfl⟩, rfl⟩ := hcut
    rcases B with _ | _
    rotate_left
    · go_wp2_with fail
      go_ret
      exact ⟨_, rfl, F9.out⟩
    go_upto_region 8 with fail
    go_cut [69] from 70 to 81 (fun x wx => (∃ B : Bool, x = .bool B) ∧ wz = wx)
    case first =>
      obtain ⟨q0, hq0⟩ : ∃ q : Bool, (n != (rn : Int)) = q := ⟨_, rfl⟩
      obtain ⟨q1, hq1⟩ : ∃ q : Bool, ((rn : Int) != (wa : Int)) = q := ⟨_, rfl⟩
      all_goals rcases q0 with _ | _
      all_goals rcases q1 with _ | _
      all_goals go_wp2_with fail
      all_goals go_meet
      all_goals exact ⟨⟨_, rfl⟩, rfl⟩
    obtain ⟨⟨B, rfl⟩, rfl⟩ := hcut
    rcases B with _ | _
    rotate_left
    · go_wp2_with fail
      go_ret
      exact ⟨_, rfl, F9.out⟩
    go_upto_region 10 with fail
    go_cut [82] from 83 to 122 (fun x wx => (∃ B : Bool, x = .bool B) ∧ wz = wx)
    case first =>
      all_goals go_wp2_with fail
      all_goals go_meet
      all_goals exact ⟨⟨_, rfl⟩, rfl⟩
    obtain ⟨⟨B, rfl⟩, rfl⟩ := hcut
    rcases B with _ | _
    rotate_left
    · go_wp2_with fail
      go_ret
      exact ⟨_, rfl, F9.out⟩
    go_upto_region 12 with fail
    go_cut [123] from 124 to 133 (fun x wx => (∃ B : Bool, x = .bool B) ∧ wz = wx)
    case first =>
      all_goals rcases B0 with _ | _
      all_goals go_wp2_with fail
      all_goals go_meet
      all_goals exact ⟨⟨_, rfl⟩, rfl⟩
    obtain ⟨⟨B, rfl⟩, rfl⟩ := hcut
    rcases B with _ | _
    rotate_left
    · go_wp2_with fail
      go_ret
      exact ⟨_, rfl, F9.out⟩
    go_wp2_with fail
    go_ret
    exact ⟨_, rfl, F9.out⟩
end Go.Proofs.YtanhbebikcoliaaDoor
/- A state one of whose rows is being written. -/
namespace Go.Proofs.YtanhbebikcoliaaDoor
open Go.ChangeShapes Go.WideShapes Go.ChangeAt Go.RowKit
set_option linter.unusedVariables false

/-- A state whose row i of the tenants (in block b) holds t, fit or not. -/
structure StRow (w : World) (G : Nat → Prop) (c : Cf) (s : St) (b i : Nat) (t : Ts) : Prop where
  mt : s.mt = c.nt
  ms : s.ms = c.nc
  dt : s.mt ≤ s.dt ∧ s.dt ≤ maxLen
  ds : s.ms ≤ s.ds ∧ s.ds ≤ maxLen
  cells : ∃ b cur, s.Bs = some ⟨b, 0, none⟩ ∧ G b ∧ Blk w b TCs cur ∧ CsRows c.nc c.nv cur
  bt : s.Bt = some ⟨b, 0, none⟩
  gb : G b
  ten : ∃ cur, Blk w b TTs cur ∧ (∀ i', i' < c.nt → i' ≠ i → ∃ t : Ts, TsOk c.nc t ∧ ∀ j, j < 12 → cur[i' * 12 + j]? = t.cells[j]?) ∧ ∀ j, j < 12 → cur[i * 12 + j]? = t.cells[j]?
theorem StOk.row {w : World} {G : Nat → Prop} {c : Cf} {s : St} (h : StOk w G c s) {i : Nat} (hi : i < c.nt) : ∃ b t, TsOk c.nc t ∧ StRow w G c s b i t := by
  obtain ⟨h1, h2, h3, h4, h5, h9, h10⟩ := h
  obtain ⟨b, cur, e1, e2, e3, e4⟩ := h9.resolve_left (by omega)
  obtain ⟨t, ht, hc⟩ := e4 i hi
  exact ⟨b, t, ht, h1, h2, h3, h4, h5, e1, e2, cur, e3, fun i' hi' _ => e4 i' hi', hc⟩
theorem StRow.ok {w : World} {G : Nat → Prop} {c : Cf} {s : St} {b i : Nat} {t : Ts} (h : StRow w G c s b i t) (ht : TsOk c.nc t) : StOk w G c s := by
  obtain ⟨h1, h2, h3, h4, h5, h6, h7, cur, h8, h9, h10⟩ := h
  refine ⟨h1, h2, h3, h4, h5, .inr ⟨b, cur, h6, h7, h8, fun i' hi' => ?_⟩, fun hn => by rw [h6] at hn; cases hn⟩
  by_cases e : i' = i
  · subst e; exact ⟨t, ht, h10⟩
  · exact h9 i' hi' e
theorem StRow.fr {w w' : World} {F G : Nat → Prop} {c : Cf} {s : St} {b i : Nat} {t : Ts} (h : StRow w G c s b i t) (hf : Fr F w w') (hF : ∀ i, G i → ¬ F i) : StRow w' G c s b i t := by
  obtain ⟨h1, h2, h3, h4, ⟨b', cur', k1, k2, k3, k4⟩, h6, h7, cur, h8, h9, h10⟩ := h
  exact ⟨h1, h2, h3, h4, ⟨b', cur', k1, k2, k3.fr hf (hF b' k2), k4⟩, h6, h7, cur, h8.fr hf (hF b h7), h9, h10⟩
theorem StRow.frNo {w w' : World} {G : Nat → Prop} {c : Cf} {s : St} {b i : Nat} {t : Ts} (h : StRow w G c s b i t) (hf : Fr No w w') : StRow w' G c s b i t := h.fr hf fun _ _ h => h
theorem StRow.set {w : World} {G : Nat → Prop} {c : Cf} {s : St} {b i j : Nat} {t t' : Ts} {u : Value} (h : StRow w G c s b i t) (hj : j < 12) (ht : t'.cells = t.cells.set j u) : StRow (w.setCell ⟨b, i * 12 + j, none⟩ u) G c s b i t' := by
  obtain ⟨h1, h2, h3, h4, ⟨b', cur', k1, k2, k3, k4⟩, h6, h7, cur, h8, h9, h10⟩ := h
  have hne : b' ≠ b := by
    rintro rfl
    unfold Blk at k3 h8
    rw [k3] at h8
    injection h8 with h8
    injection h8 with _ h8
    exact absurd h8 (by decide)
  have hl : t.cells.length = 12 := rfl
  have h11 : i * 12 + j < cur.size := by
    have := h10 j hj
    rw [List.getElem?_eq_getElem (by rw [hl]; exact hj)] at this
    exact (Array.getElem?_eq_some_iff.1 this).1
  refine ⟨h1, h2, h3, h4, ⟨b', cur', k1, k2, k3.fr (fr_set w ⟨b, i * 12 + j, none⟩ u) hne, k4⟩, h6, h7, _, h8.set_ (i * 12 + j) u, fun i' hi' hne' => ?_, fun k hk => ?_⟩
  · obtain ⟨t2, q1, q2⟩ := h9 i' hi' hne'
    refine ⟨t2, q1, fun k hk => ?_⟩
    rw [Array.getElem?_setIfInBounds, if_neg (by omega)]
    exact q2 k hk
  · rw [Array.getElem?_setIfInBounds, ht]
    by_cases e : j = k
    · subst e
      rw [if_pos rfl, if_pos h11, List.getElem?_set_self (by rw [hl]; exact hj)]
    · rw [if_neg (by omega), List.getElem?_set_ne e]
      exact h10 k hk
theorem StRow.set0 {w : World} {G : Nat → Prop} {c : Cf} {s : St} {b i : Nat} {t t' : Ts} {u : Value} (h : StRow w G c s b i t) (ht : t'.cells = t.cells.set 0 u) : StRow (w.setCell ⟨b, i * 12, none⟩ u) G c s b i t' := h.set (j := 0) (by decide) ht
theorem StRow.setA {w : World} {G : Nat → Prop} {c : Cf} {s : St} {b i j a : Nat} {t t' : Ts} {u : Value} (h : StRow w G c s b i t) (hj : j < 12) (ha : a = i * 12 + j) (ht : t'.cells = t.cells.set j u) : StRow (w.setCell ⟨b, a, none⟩ u) G c s b i t' := ha ▸ h.set hj ht
theorem StRow.lt {w : World} {G : Nat → Prop} {c : Cf} {s : St} {b i : Nat} {t : Ts} (h : StRow w G c s b i t) : b < w.heap.size := by
  obtain ⟨h1, h2, h3, h4, h5, h6, h7, cur, h8, h9, h10⟩ := h
  exact h8.lt
/-- The row's cells, in all worlds behind. -/
theorem StRow.at_ {w : World} {G : Nat → Prop} {c : Cf} {s : St} {b i : Nat} {t : Ts} (h : StRow w G c s b i t) : ∀ V, Fr No w V → (V.cell? ⟨b, i * 12, none⟩ = some (.bool t.pl) ∧ V.cell? ⟨b, i * 12 + 1, none⟩ = some (.bool t.sh) ∧ V.cell? ⟨b, i * 12 + 2, none⟩ = some (.int .i64 t.hm) ∧ V.cell? ⟨b, i * 12 + 3, none⟩ = some (.int .i64 t.sb) ∧ V.cell? ⟨b, i * 12 + 4, none⟩ = some (.int .i64 t.nx) ∧ V.cell? ⟨b, i * 12 + 5, none⟩ = some (.int .i64 t.tg) ∧ V.cell? ⟨b, i * 12 + 6, none⟩ = some (.int .i64 t.ep) ∧ V.cell? ⟨b, i * 12 + 7, none⟩ = some (.int .i64 t.wc) ∧ V.cell? ⟨b, i * 12 + 8, none⟩ = some (.int .i64 t.we) ∧ V.cell? ⟨b, i * 12 + 9, none⟩ = some (.int .i64 t.wv) ∧ V.cell? ⟨b, i * 12 + 10, none⟩ = some (.int .i64 t.wf) ∧ V.cell? ⟨b, i * 12 + 11, none⟩ = some (.int .i64 t.wu)) ∧ ∀ k, V.frozen? ⟨b, k, none⟩ = false := fun V hf => by
  obtain ⟨h1, h2, h3, h4, h5, h6, h7, cur, h8, h9, hc⟩ := h
  have k := h8.fr hf fun h => h
  exact ⟨⟨(k.cell _).trans (hc 0 (by decide)), (k.cell _).trans (hc 1 (by decide)), (k.cell _).trans (hc 2 (by decide)), (k.cell _).trans (hc 3 (by decide)), (k.cell _).trans (hc 4 (by decide)), (k.cell _).trans (hc 5 (by decide)), (k.cell _).trans (hc 6 (by decide)), (k.cell _).trans (hc 7 (by decide)), (k.cell _).trans (hc 8 (by decide)), (k.cell _).trans (hc 9 (by decide)), (k.cell _).trans (hc 10 (by decide)), (k.cell _).trans (hc 11 (by decide))⟩, fun k' => k.frozen k'⟩
theorem StTo.fill {w W : World} {G : Nat → Prop} {c : Cf} {s : St} {q : Nat} {e : Ending} (hok : StOk W G c s) (hf : Fr G w W) (hq : w.heap.size ≤ q) (hG : ∀ i, G i → i < w.heap.size) (he : e = .returned (.tuple #[.agg s.arr, .int .i64 0])) : StTo w G G c e (World.setCell (World.setCell (World.setCell (World.setCell (World.setCell (World.setCell (World.setCell (World.setCell W ⟨q, 0, none⟩ (.int .i64 s.tk)) ⟨q, 1, none⟩ (.int .i64 s.cn)) ⟨q, 2, none⟩ (.slice s.Bt s.mt s.dt)) ⟨q, 3, none⟩ (.slice s.Bs s.ms s.ds)) ⟨q, 4, none⟩ (.int .i64 s.pr)) ⟨q, 5, none⟩ (.int .i64 s.ev)) ⟨q, 6, none⟩ (.int .i64 s.lo)) ⟨q, 7, none⟩ (.int .i64 s.hi)) :=
  ⟨s, 0, he, fun _ => hok.fr ((Fr.setCell (Fr.setCell (Fr.setCell (Fr.setCell (Fr.setCell (Fr.setCell (Fr.setCell (Fr.setCell (Fr.refl (fun i => i = q) W) (p := ⟨q, 0, none⟩) (.inl rfl) _) (p := ⟨q, 1, none⟩) (.inl rfl) _) (p := ⟨q, 2, none⟩) (.inl rfl) _) (p := ⟨q, 3, none⟩) (.inl rfl) _) (p := ⟨q, 4, none⟩) (.inl rfl) _) (p := ⟨q, 5, none⟩) (.inl rfl) _) (p := ⟨q, 6, none⟩) (.inl rfl) _) (p := ⟨q, 7, none⟩) (.inl rfl) _) : Fr (fun i => i = q) W _) (fun i hi e => by have := hG i hi; have e : i = q := e; omega), st_fill_fr s hf hq⟩
end Go.Proofs.YtanhbebikcoliaaDoor
/- The turns of a tenant's state: abandon, ready. -/
namespace Go.Proofs.YtanhbebikcoliaaDoor
open Go.ChangeShapes Go.WideShapes Go.ChangeAt Go.RowKit
set_option linter.unusedVariables false
set_option maxRecDepth 100000 in
set_option maxHeartbeats 8000000 in
theorem abandon_any {w : World} {G : Nat → Prop} {c : Cf} {s : St} (h : CfOk w c) (hs : StOk w G c s) (hG : ∀ i, G i → i < w.heap.size) (e : En) (ht1 : 0 ≤ e.tenant) (ht2 : e.tenant < c.nt) :
    Calls Tryd.prog 72 #[.agg s.arr, .agg (EnArr e)] w (StTo w G G c) := by
  obtain ⟨i, hi, hil⟩ := nat_of ht1 ht2
  obtain ⟨bt, t, hto, hrow⟩ := hs.row hil
  have h1 := hrow.bt
  have hgb := hrow.gb
  have hbt := hrow.lt
  have hst := fun W (hf : Fr No w W) => hs.frNo hf
  have hcf := fun W (hf : Fr No w W) => h.frNo hf
  have hms := hs.ms
  have hmt := hs.mt
  obtain ⟨rg, nz, nc, nt, nv, le, bk, bz, bc, bv, cz, cc, ct, cv, At, Ar, nr, cr, Ao, no_, co, bl⟩ := c
  obtain ⟨tk, cn, Bt, mt, dt, Bs, ms, ds, pr, ev, lo, hi⟩ := s
  obtain ⟨kd, et, tn, cl, ot, ep, fm, un, n⟩ := e
  obtain ⟨pl, sh, hm, sb, nx, tg, tp, wc_, we, wv, wf, wu⟩ := t
  simp only at *
  subst hms hmt
  subst h1 hi
  have hix : (0 : Int) ≤ (i : Int) ∧ (i : Int) < (mt : Int) := by omega
  clear hs h ht1 ht2
  obtain ⟨w1, hw1⟩ : ∃ w1, w1 = w.alloc (.cells #[.int .i64 tk, .int .i64 cn, .slice (some ⟨bt, 0, none⟩) mt dt, .slice Bs ms ds, .int .i64 pr, .int .i64 ev, .int .i64 lo, .int .i64 hi] TSt) := ⟨_, rfl⟩
  obtain ⟨g1, hg1⟩ : ∃ g1, g1 = w.heap.size := ⟨_, rfl⟩
  have hb1 : Blk w1 g1 TSt #[.int .i64 tk, .int .i64 cn, .slice (some ⟨bt, 0, none⟩) mt dt, .slice Bs ms ds, .int .i64 pr, .int .i64 ev, .int .i64 lo, .int .i64 hi] := by rw [hw1, hg1]; exact Blk.new _ _ _
  have f1 : Fr No w w1 := by rw [hw1]; exact fr_alloc _ _
  have hs1 : w1.heap.size = g1 + 1 := by rw [hw1, hg1]; simp
  obtain ⟨w2, hw2⟩ : ∃ w2, w2 = w1.alloc (.cells #[.int .i64 kd, .int .i64 et, .int .i64 (i : Int), .int .i64 cl, .int .i64 ot, .int .i64 ep, .int .i64 fm, .int .i64 un, .int .i64 n] TEm) := ⟨_, rfl⟩
  obtain ⟨g2, hg2⟩ : ∃ g2, g2 = w1.heap.size := ⟨_, rfl⟩
  have hb2 : Blk w2 g2 TEm #[.int .i64 kd, .int .i64 et, .int .i64 (i : Int), .int .i64 cl, .int .i64 ot, .int .i64 ep, .int .i64 fm, .int .i64 un, .int .i64 n] := by rw [hw2, hg2]; exact Blk.new _ _ _
  have f2 : Fr No w1 w2 := by rw [hw2]; exact fr_alloc _ _
  have hs2 : w2.heap.size = g2 + 1 := by rw [hw2, hg2]; simp
  obtain ⟨w3, hw3⟩ : ∃ w3, w3 = w2.alloc (.cells #[.int .i64 0, .int .i64 0, .slice none 0 0, .slice none 0 0, .int .i64 0, .int .i64 0, .int .i64 0, .int .i64 0] TSt) := ⟨_, rfl⟩
  obtain ⟨g3, hg3⟩ : ∃ g3, g3 = w2.heap.size := ⟨_, rfl⟩
  have hb3 : Blk w3 g3 TSt #[.int .i64 0, .int .i64 0, .slice none 0 0, .slice none 0 0, .int .i64 0, .int .i64 0, .int .i64 0, .int .i64 0] := by rw [hw3, hg3]; exact Blk.new _ _ _
  have f3 : Fr No w2 w3 := by rw [hw3]; exact fr_alloc _ _
  have hs3 : w3.heap.size = g3 + 1 := by rw [hw3, hg3]; simp
  have hB1 : Blk w3 g1 TSt #[.int .i64 tk, .int .i64 cn, .slice (some ⟨bt, 0, none⟩) mt dt, .slice Bs ms ds, .int .i64 pr, .int .i64 ev, .int .i64 lo, .int .i64 hi] := hb1.fr (((Fr.refl No _).transNo f2).transNo f3) (fun h => h)
  have hB2 : Blk w3 g2 TEm #[.int .i64 kd, .int .i64 et, .int .i64 (i : Int), .int .i64 cl, .int .i64 ot, .int .i64 ep, .int .i64 fm, .int .i64 un, .int .i64 n] := hb2.fr ((Fr.refl No _).transNo f3) (fun h => h)
  have hB3 : Blk w3 g3 TSt #[.int .i64 0, .int .i64 0, .slice none 0 0, .slice none 0 0, .int .i64 0, .int .i64 0, .int .i64 0, .int .i64 0] := hb3.fr (Fr.refl No _) (fun h => h)
  have fW : Fr No w w3 := (((Fr.refl No w).transNo f1).transNo f2).transNo f3
  have he2 : g2 = g1 + 1 := by rw [hg2, hs1]
  have he3 : g3 = g1 + 2 := by rw [hg3, hs2]; rw [he2]
  have hka : ∀ V, Fr No w3 V → (V.cell? ⟨g1, 0, none⟩ = some (.int .i64 tk) ∧ V.cell? ⟨g1, 1, none⟩ = some (.int .i64 cn) ∧ V.cell? ⟨g1, 2, none⟩ = some (.slice (some ⟨bt, 0, none⟩) mt dt) ∧ V.cell? ⟨g1, 3, none⟩ = some (.slice Bs ms ds) ∧ V.cell? ⟨g1, 4, none⟩ = some (.int .i64 pr) ∧ V.cell? ⟨g1, 5, none⟩ = some (.int .i64 ev) ∧ V.cell? ⟨g1, 6, none⟩ = some (.int .i64 lo) ∧ V.cell? ⟨g1, 7, none⟩ = some (.int .i64 hi)) ∧ (V.cell? ⟨g2, 0, none⟩ = some (.int .i64 kd) ∧ V.cell? ⟨g2, 1, none⟩ = some (.int .i64 et) ∧ V.cell? ⟨g2, 2, none⟩ = some (.int .i64 (i : Int)) ∧ V.cell? ⟨g2, 3, none⟩ = some (.int .i64 cl) ∧ V.cell? ⟨g2, 4, none⟩ = some (.int .i64 ot) ∧ V.cell? ⟨g2, 5, none⟩ = some (.int .i64 ep) ∧ V.cell? ⟨g2, 6, none⟩ = some (.int .i64 fm) ∧ V.cell? ⟨g2, 7, none⟩ = some (.int .i64 un) ∧ V.cell? ⟨g2, 8, none⟩ = some (.int .i64 n)) ∧ (V.cell? ⟨g3, 0, none⟩ = some (.int .i64 0) ∧ V.cell? ⟨g3, 1, none⟩ = some (.int .i64 0) ∧ V.cell? ⟨g3, 2, none⟩ = some (.slice none 0 0) ∧ V.cell? ⟨g3, 3, none⟩ = some (.slice none 0 0) ∧ V.cell? ⟨g3, 4, none⟩ = some (.int .i64 0) ∧ V.cell? ⟨g3, 5, none⟩ = some (.int .i64 0) ∧ V.cell? ⟨g3, 6, none⟩ = some (.int .i64 0) ∧ V.cell? ⟨g3, 7, none⟩ = some (.int .i64 0)) := fun V hf => ⟨(let k := hB1.fr hf (fun h => h); ⟨k.cell 0, k.cell 1, k.cell 2, k.cell 3, k.cell 4, k.cell 5, k.cell 6, k.cell 7⟩), (let k := hB2.fr hf (fun h => h); ⟨k.cell 0, k.cell 1, k.cell 2, k.cell 3, k.cell 4, k.cell 5, k.cell 6, k.cell 7, k.cell 8⟩), (let k := hB3.fr hf (fun h => h); ⟨k.cell 0, k.cell 1, k.cell 2, k.cell 3, k.cell 4, k.cell 5, k.cell 6, k.cell 7⟩)⟩
  have hW : w3 = ((w.alloc (.cells #[.int .i64 tk, .int .i64 cn, .slice (some ⟨bt, 0, none⟩) mt dt, .slice Bs ms ds, .int .i64 pr, .int .i64 ev, .int .i64 lo, .int .i64 hi] TSt)).alloc (.cells #[.int .i64 kd, .int .i64 et, .int .i64 (i : Int), .int .i64 cl, .int .i64 ot, .int .i64 ep, .int .i64 fm, .int .i64 un, .int .i64 n] TEm)).alloc (.cells #[.int .i64 0, .int .i64 0, .slice none 0 0, .slice none 0 0, .int .i64 0, .int .i64 0, .int .i64 0, .int .i64 0] TSt) := by rw [hw3, hw2, hw1]
  have hl1 : g1 < w3.heap.size := hB1.lt
  have hl2 : g2 < w3.heap.size := hB2.lt
  have hl3 : g3 < w3.heap.size := hB3.lt
  clear hw1 hb1 hs1 hw2 hb2 hs2 hw3 hb3 hs3
  have HG1 := Lib.hid hg1
  have HG2 := Lib.hid hg2
  have HG3 := Lib.hid hg3
  have HE2 := Lib.hid he2
  have HE3 := Lib.hid he3
  clear hg1 hg2 hg3 he2 he3
  have hra := fun V (hV : Fr No w3 V) => hrow.at_ V (fW.transNo hV)
  have hz := fun V (hV : Fr No w3 V) => hB3.fr hV (fun h => h)
  have hgz : w.heap.size ≤ g3 := by rw [HE3.out, HG1.out]; omega
  have hbt3 : bt < w3.heap.size := Nat.lt_of_lt_of_le hbt fW.size
  have hn1 : bt ≠ g1 := by have := HG1.out; omega
  have hn2 : bt ≠ g2 := by have := HG1.out; have := HE2.out; omega
  have hn3 : bt ≠ g3 := by have := HG1.out; have := HE3.out; omega
  have hm1 : g1 ≠ bt := fun h => hn1 h.symm
  have hm2 : g2 ≠ bt := fun h => hn2 h.symm
  have hm3 : g3 ≠ bt := fun h => hn3 h.symm
  have HST := Lib.hid hst
  have HCF := Lib.hid hcf
  have HKA := Lib.hid hka
  have HW := Lib.hid hW
  have HRA := Lib.hid hra
  have HZ := Lib.hid hz
  have HTO := Lib.hid hto
  have HROW := Lib.hid hrow
  clear hst hcf hka hW hra hz hto hrow
  go_enter Tryd.func72, Tryd.ntmps72
  go_upto_region 1 with fail
  rw [← HW.out]
  try rw [← show g3 = w.heap.size + 2 from by rw [HE3.out, HG1.out]]
  try rw [← show g2 = w.heap.size + 1 from by rw [HE2.out, HG1.out]]
  try rw [← HG1.out]
  have FQ := Lib.hid (Fr.refl No w3)
  obtain ⟨⟨s0, s1, s2, s3, s4, s5, s6, s7⟩, ⟨x0, x1, x2, x3, x4, x5, x6, x7, x8⟩, ⟨z0, z1, z2, z3, z4, z5, z6, z7⟩⟩ := HKA.out w3 FQ.out
  obtain ⟨⟨r0, r1, r2, r3, r4, r5, r6, r7, r8, r9, r10, r11⟩, hfz⟩ := HRA.out w3 FQ.out
  go_upto_region 2 with fail
  go_cut [23] from 12 to 22 (fun x wx => (∃ B : Bool, x = .bool B ∧ (True)) ∧ Fr No w3 wx)
  case first =>
    rcases pl with _ | _
    all_goals (try go_wp2_with fail)
    all_goals go_meet
    all_goals exact ⟨⟨_, rfl, trivial⟩, (by repeat (first | assumption | exact Fr.refl _ _ | refine Fr.alloc ?_ _ | refine Fr.drew ?_ | refine Fr.drewN ?_ _))⟩
  obtain ⟨⟨B, rfl, hB⟩, hcf⟩ := hcut
  replace FQ := Lib.hid (FQ.out.transNo hcf)
  clear hcf
  clear s0 s1 s2 s3 s4 s5 s6 s7 x0 x1 x2 x3 x4 x5 x6 x7 x8 z0 z1 z2 z3 z4 z5 z6 z7 r0 r1 r2 r3 r4 r5 r6 r7 r8 r9 r10 r11 hfz
  obtain ⟨⟨s0, s1, s2, s3, s4, s5, s6, s7⟩, ⟨x0, x1, x2, x3, x4, x5, x6, x7, x8⟩, ⟨z0, z1, z2, z3, z4, z5, z6, z7⟩⟩ := HKA.out wc FQ.out
  obtain ⟨⟨r0, r1, r2, r3, r4, r5, r6, r7, r8, r9, r10, r11⟩, hfz⟩ := HRA.out wc FQ.out
  rcases B with _ | _
  rotate_left
  · go_wp2_with fail
    refine (no_any _ _).mono ?_
    rintro e w9 ⟨rfl, f9⟩
    have hz9 := HZ.out w9 (FQ.out.transNo f9)
    have f8 := fW.transNo (FQ.out.transNo f9)
    obtain ⟨z0, z1, z2, z3, z4, z5, z6, z7⟩ := st_cells (s := stZero) hz9
    simp only at z0 z1 z2 z3 z4 z5 z6 z7
    have q0 := hz9.frozen 0
    have q1 := hz9.frozen 1
    have q2 := hz9.frozen 2
    have q3 := hz9.frozen 3
    have q4 := hz9.frozen 4
    have q5 := hz9.frozen 5
    have q6 := hz9.frozen 6
    have q7 := hz9.frozen 7
    have HZ9 := Lib.hid hz9
    have F8 := Lib.hid f8
    clear hz9 f8
    go_wp2_with fail
    exact bodyPost_ret (v := .tuple #[.agg stZero.arr, .int .i64 4]) (abandon_results stZero 4 g3 _ _ (st_fill (z := stZero) stZero HZ9.out) rfl rfl) rfl (StTo.no (by decide) ((st_fill_fr stZero F8.out hgz).mono fun _ h => h.elim) rfl)
  have hro9 := HROW.out.frNo (fW.transNo FQ.out)
  have hro9 := hro9.setA (t' := ⟨pl, sh, hm, sb, nx, (-1), tp, wc_, we, wv, wf, wu⟩) (u := (.int .i64 (-1))) (a := i * 12 + 5) (j := 5) (by decide) (by omega) rfl
  have hok9 := hro9.ok ⟨HTO.out.hm, HTO.out.sb, HTO.out.nx, ⟨Int.le_refl _, by show (-1 : Int) < (ms : Int); omega⟩, HTO.out.pl, HTO.out.sh, HTO.out.nu⟩
  have f9 : Fr G w ((wc).setCell ⟨bt, i * 12 + 5, none⟩ (.int .i64 (-1))) := ((fW.transNo FQ.out).mono (fun _ h => h.elim)).setCell (p := ⟨bt, i * 12 + 5, none⟩) (.inl hgb) _
  have hz9 := (HZ.out wc FQ.out).fr (fr_set _ ⟨bt, i * 12 + 5, none⟩ (.int .i64 (-1))) hm3
  have q0 := (HZ.out wc FQ.out).frozen 0
  have q1 := (HZ.out wc FQ.out).frozen 1
  have q2 := (HZ.out wc FQ.out).frozen 2
  have q3 := (HZ.out wc FQ.out).frozen 3
  have q4 := (HZ.out wc FQ.out).frozen 4
  have q5 := (HZ.out wc FQ.out).frozen 5
  have q6 := (HZ.out wc FQ.out).frozen 6
  have q7 := (HZ.out wc FQ.out).frozen 7
  have HRO9 := Lib.hid hro9
  have HOK9 := Lib.hid hok9
  have F9 := Lib.hid f9
  have HZ9 := Lib.hid hz9
  clear hro9 hok9 f9 hz9
  have T9 := Lib.hid (StTo.fill (s := ⟨tk, cn, some ⟨bt, 0, none⟩, mt, dt, Bs, ms, ds, pr, ev, lo, hi⟩) (q := g3) (e := .returned (.tuple #[.agg (St.arr ⟨tk, cn, some ⟨bt, 0, none⟩, mt, dt, Bs, ms, ds, pr, ev, lo, hi⟩), .int .i64 0])) HOK9.out F9.out hgz hG rfl)
  have T8 := Lib.hid (st_fill (q := g3) (z := stZero) ⟨tk, cn, some ⟨bt, 0, none⟩, mt, dt, Bs, ms, ds, pr, ev, lo, hi⟩ HZ9.out)
  clear HOK9 F9 HZ9 HRO9
  go_wp2_with fail
  exact bodyPost_ret (v := .tuple #[.agg (St.arr ⟨tk, cn, some ⟨bt, 0, none⟩, mt, dt, Bs, ms, ds, pr, ev, lo, hi⟩), .int .i64 0]) (abandon_results ⟨tk, cn, some ⟨bt, 0, none⟩, mt, dt, Bs, ms, ds, pr, ev, lo, hi⟩ 0 g3 _ _ T8.out rfl rfl) rfl T9.out
end Go.Proofs.YtanhbebikcoliaaDoor
/- The turns of a tenant's state: ready, cut. -/
namespace Go.Proofs.YtanhbebikcoliaaDoor
open Go.ChangeShapes Go.WideShapes Go.ChangeAt Go.RowKit
set_option linter.unusedVariables false
set_option maxRecDepth 100000 in
set_option maxHeartbeats 8000000 in
theorem ready_any {w : World} {G : Nat → Prop} {c : Cf} {s : St} (h : CfOk w c) (hs : StOk w G c s) (hG : ∀ i, G i → i < w.heap.size) (e : En) (ht1 : 0 ≤ e.tenant) (ht2 : e.tenant < c.nt) (hc1 : 0 ≤ e.cell) (hc2 : e.cell < c.nc) :
    Calls Tryd.prog 70 #[.agg s.arr, .agg (EnArr e)] w (StTo w G G c) := by
  obtain ⟨i, hi, hil⟩ := nat_of ht1 ht2
  obtain ⟨j, hj, hjl⟩ := nat_of hc1 hc2
  obtain ⟨bs, md, rn, wa, si, h2, -, hbs, -, -, hcr⟩ := hs.cell hjl
  obtain ⟨bt, t, hto, hrow⟩ := hs.row hil
  have h1 := hrow.bt
  have hgb := hrow.gb
  have hbt := hrow.lt
  have hst := fun W (hf : Fr No w W) => hs.frNo hf
  have hcf := fun W (hf : Fr No w W) => h.frNo hf
  have hms := hs.ms
  have hmt := hs.mt
  obtain ⟨rg, nz, nc, nt, nv, le, bk, bz, bc, bv, cz, cc, ct, cv, At, Ar, nr, cr, Ao, no_, co, bl⟩ := c
  obtain ⟨tk, cn, Bt, mt, dt, Bs, ms, ds, pr, ev, lo, hi⟩ := s
  obtain ⟨kd, et, tn, cl, ot, ep, fm, un, n⟩ := e
  obtain ⟨pl, sh, hm, sb, nx, tg, tp, wc_, we, wv, wf, wu⟩ := t
  simp only at *
  subst hms hmt
  subst h1 h2 hi hj
  have hix : (0 : Int) ≤ (i : Int) ∧ (i : Int) < (mt : Int) := by omega
  have hjx : (0 : Int) ≤ (j : Int) ∧ (j : Int) < (ms : Int) := by omega
  clear hs h ht1 ht2 hc1 hc2
  obtain ⟨w1, hw1⟩ : ∃ w1, w1 = w.alloc (.cells #[.int .i64 tk, .int .i64 cn, .slice (some ⟨bt, 0, none⟩) mt dt, .slice (some ⟨bs, 0, none⟩) ms ds, .int .i64 pr, .int .i64 ev, .int .i64 lo, .int .i64 hi] TSt) := ⟨_, rfl⟩
  obtain ⟨g1, hg1⟩ : ∃ g1, g1 = w.heap.size := ⟨_, rfl⟩
  have hb1 : Blk w1 g1 TSt #[.int .i64 tk, .int .i64 cn, .slice (some ⟨bt, 0, none⟩) mt dt, .slice (some ⟨bs, 0, none⟩) ms ds, .int .i64 pr, .int .i64 ev, .int .i64 lo, .int .i64 hi] := by rw [hw1, hg1]; exact Blk.new _ _ _
  have f1 : Fr No w w1 := by rw [hw1]; exact fr_alloc _ _
  have hs1 : w1.heap.size = g1 + 1 := by rw [hw1, hg1]; simp
  obtain ⟨w2, hw2⟩ : ∃ w2, w2 = w1.alloc (.cells #[.int .i64 kd, .int .i64 et, .int .i64 (i : Int), .int .i64 (j : Int), .int .i64 ot, .int .i64 ep, .int .i64 fm, .int .i64 un, .int .i64 n] TEm) := ⟨_, rfl⟩
  obtain ⟨g2, hg2⟩ : ∃ g2, g2 = w1.heap.size := ⟨_, rfl⟩
  have hb2 : Blk w2 g2 TEm #[.int .i64 kd, .int .i64 et, .int .i64 (i : Int), .int .i64 (j : Int), .int .i64 ot, .int .i64 ep, .int .i64 fm, .int .i64 un, .int .i64 n] := by rw [hw2, hg2]; exact Blk.new _ _ _
  have f2 : Fr No w1 w2 := by rw [hw2]; exact fr_alloc _ _
  have hs2 : w2.heap.size = g2 + 1 := by rw [hw2, hg2]; simp
  obtain ⟨w3, hw3⟩ : ∃ w3, w3 = w2.alloc (.cells #[.int .i64 0, .int .i64 0, .slice none 0 0, .slice none 0 0, .int .i64 0, .int .i64 0, .int .i64 0, .int .i64 0] TSt) := ⟨_, rfl⟩
  obtain ⟨g3, hg3⟩ : ∃ g3, g3 = w2.heap.size := ⟨_, rfl⟩
  have hb3 : Blk w3 g3 TSt #[.int .i64 0, .int .i64 0, .slice none 0 0, .slice none 0 0, .int .i64 0, .int .i64 0, .int .i64 0, .int .i64 0] := by rw [hw3, hg3]; exact Blk.new _ _ _
  have f3 : Fr No w2 w3 := by rw [hw3]; exact fr_alloc _ _
  have hs3 : w3.heap.size = g3 + 1 := by rw [hw3, hg3]; simp
  have hB1 : Blk w3 g1 TSt #[.int .i64 tk, .int .i64 cn, .slice (some ⟨bt, 0, none⟩) mt dt, .slice (some ⟨bs, 0, none⟩) ms ds, .int .i64 pr, .int .i64 ev, .int .i64 lo, .int .i64 hi] := hb1.fr (((Fr.refl No _).transNo f2).transNo f3) (fun h => h)
  have hB2 : Blk w3 g2 TEm #[.int .i64 kd, .int .i64 et, .int .i64 (i : Int), .int .i64 (j : Int), .int .i64 ot, .int .i64 ep, .int .i64 fm, .int .i64 un, .int .i64 n] := hb2.fr ((Fr.refl No _).transNo f3) (fun h => h)
  have hB3 : Blk w3 g3 TSt #[.int .i64 0, .int .i64 0, .slice none 0 0, .slice none 0 0, .int .i64 0, .int .i64 0, .int .i64 0, .int .i64 0] := hb3.fr (Fr.refl No _) (fun h => h)
  have fW : Fr No w w3 := (((Fr.refl No w).transNo f1).transNo f2).transNo f3
  have he2 : g2 = g1 + 1 := by rw [hg2, hs1]
  have he3 : g3 = g1 + 2 := by rw [hg3, hs2]; rw [he2]
  have hka : ∀ V, Fr No w3 V → (V.cell? ⟨g1, 0, none⟩ = some (.int .i64 tk) ∧ V.cell? ⟨g1, 1, none⟩ = some (.int .i64 cn) ∧ V.cell? ⟨g1, 2, none⟩ = some (.slice (some ⟨bt, 0, none⟩) mt dt) ∧ V.cell? ⟨g1, 3, none⟩ = some (.slice (some ⟨bs, 0, none⟩) ms ds) ∧ V.cell? ⟨g1, 4, none⟩ = some (.int .i64 pr) ∧ V.cell? ⟨g1, 5, none⟩ = some (.int .i64 ev) ∧ V.cell? ⟨g1, 6, none⟩ = some (.int .i64 lo) ∧ V.cell? ⟨g1, 7, none⟩ = some (.int .i64 hi)) ∧ (V.cell? ⟨g2, 0, none⟩ = some (.int .i64 kd) ∧ V.cell? ⟨g2, 1, none⟩ = some (.int .i64 et) ∧ V.cell? ⟨g2, 2, none⟩ = some (.int .i64 (i : Int)) ∧ V.cell? ⟨g2, 3, none⟩ = some (.int .i64 (j : Int)) ∧ V.cell? ⟨g2, 4, none⟩ = some (.int .i64 ot) ∧ V.cell? ⟨g2, 5, none⟩ = some (.int .i64 ep) ∧ V.cell? ⟨g2, 6, none⟩ = some (.int .i64 fm) ∧ V.cell? ⟨g2, 7, none⟩ = some (.int .i64 un) ∧ V.cell? ⟨g2, 8, none⟩ = some (.int .i64 n)) ∧ (V.cell? ⟨g3, 0, none⟩ = some (.int .i64 0) ∧ V.cell? ⟨g3, 1, none⟩ = some (.int .i64 0) ∧ V.cell? ⟨g3, 2, none⟩ = some (.slice none 0 0) ∧ V.cell? ⟨g3, 3, none⟩ = some (.slice none 0 0) ∧ V.cell? ⟨g3, 4, none⟩ = some (.int .i64 0) ∧ V.cell? ⟨g3, 5, none⟩ = some (.int .i64 0) ∧ V.cell? ⟨g3, 6, none⟩ = some (.int .i64 0) ∧ V.cell? ⟨g3, 7, none⟩ = some (.int .i64 0)) := fun V hf => ⟨(let k := hB1.fr hf (fun h => h); ⟨k.cell 0, k.cell 1, k.cell 2, k.cell 3, k.cell 4, k.cell 5, k.cell 6, k.cell 7⟩), (let k := hB2.fr hf (fun h => h); ⟨k.cell 0, k.cell 1, k.cell 2, k.cell 3, k.cell 4, k.cell 5, k.cell 6, k.cell 7, k.cell 8⟩), (let k := hB3.fr hf (fun h => h); ⟨k.cell 0, k.cell 1, k.cell 2, k.cell 3, k.cell 4, k.cell 5, k.cell 6, k.cell 7⟩)⟩
  have hW : w3 = ((w.alloc (.cells #[.int .i64 tk, .int .i64 cn, .slice (some ⟨bt, 0, none⟩) mt dt, .slice (some ⟨bs, 0, none⟩) ms ds, .int .i64 pr, .int .i64 ev, .int .i64 lo, .int .i64 hi] TSt)).alloc (.cells #[.int .i64 kd, .int .i64 et, .int .i64 (i : Int), .int .i64 (j : Int), .int .i64 ot, .int .i64 ep, .int .i64 fm, .int .i64 un, .int .i64 n] TEm)).alloc (.cells #[.int .i64 0, .int .i64 0, .slice none 0 0, .slice none 0 0, .int .i64 0, .int .i64 0, .int .i64 0, .int .i64 0] TSt) := by rw [hw3, hw2, hw1]
  have hl1 : g1 < w3.heap.size := hB1.lt
  have hl2 : g2 < w3.heap.size := hB2.lt
  have hl3 : g3 < w3.heap.size := hB3.lt
  clear hw1 hb1 hs1 hw2 hb2 hs2 hw3 hb3 hs3
  have HG1 := Lib.hid hg1
  have HG2 := Lib.hid hg2
  have HG3 := Lib.hid hg3
  have HE2 := Lib.hid he2
  have HE3 := Lib.hid he3
  clear hg1 hg2 hg3 he2 he3
  have hra := fun V (hV : Fr No w3 V) => hrow.at_ V (fW.transNo hV)
  have hca := fun V (hV : Fr No w3 V) => hcr V (fW.transNo hV)
  have hz := fun V (hV : Fr No w3 V) => hB3.fr hV (fun h => h)
  have hgz : w.heap.size ≤ g3 := by rw [HE3.out, HG1.out]; omega
  have hbt3 : bt < w3.heap.size := Nat.lt_of_lt_of_le hbt fW.size
  have hn1 : bt ≠ g1 := by have := HG1.out; omega
  have hn2 : bt ≠ g2 := by have := HG1.out; have := HE2.out; omega
  have hn3 : bt ≠ g3 := by have := HG1.out; have := HE3.out; omega
  have hm1 : g1 ≠ bt := fun h => hn1 h.symm
  have hm2 : g2 ≠ bt := fun h => hn2 h.symm
  have hm3 : g3 ≠ bt := fun h => hn3 h.symm
  have HST := Lib.hid hst
  have HCF := Lib.hid hcf
  have HKA := Lib.hid hka
  have HW := Lib.hid hW
  have HRA := Lib.hid hra
  have HCA := Lib.hid hca
  have HZ := Lib.hid hz
  have HTO := Lib.hid hto
  have HROW := Lib.hid hrow
  clear hst hcf hka hW hra hca hz hto hrow
  clear hcr
  go_enter Tryd.func70, Tryd.ntmps70
  go_upto_region 1 with fail
  rw [← HW.out]
  try rw [← show g3 = w.heap.size + 2 from by rw [HE3.out, HG1.out]]
  try rw [← show g2 = w.heap.size + 1 from by rw [HE2.out, HG1.out]]
  try rw [← HG1.out]
  have FQ := Lib.hid (Fr.refl No w3)
  obtain ⟨⟨s0, s1, s2, s3, s4, s5, s6, s7⟩, ⟨x0, x1, x2, x3, x4, x5, x6, x7, x8⟩, ⟨z0, z1, z2, z3, z4, z5, z6, z7⟩⟩ := HKA.out w3 FQ.out
  obtain ⟨⟨r0, r1, r2, r3, r4, r5, r6, r7, r8, r9, r10, r11⟩, hfz⟩ := HRA.out w3 FQ.out
  obtain ⟨d0, d1, d2, d3⟩ := HCA.out w3 FQ.out
  go_upto_region 2 with fail
  go_cut [12] from 13 to 17 (fun x wx => (∃ B : Bool, x = .bool B ∧ (True)) ∧ Fr No w3 wx)
  case first =>
    rcases pl with _ | _
    all_goals (try go_wp2_with fail)
    all_goals go_meet
    all_goals exact ⟨⟨_, rfl, trivial⟩, (by repeat (first | assumption | exact Fr.refl _ _ | refine Fr.alloc ?_ _ | refine Fr.drew ?_ | refine Fr.drewN ?_ _))⟩
  obtain ⟨⟨B, rfl, hB⟩, hcf⟩ := hcut
  replace FQ := Lib.hid (FQ.out.transNo hcf)
  clear hcf
  clear s0 s1 s2 s3 s4 s5 s6 s7 x0 x1 x2 x3 x4 x5 x6 x7 x8 z0 z1 z2 z3 z4 z5 z6 z7 r0 r1 r2 r3 r4 r5 r6 r7 r8 r9 r10 r11 hfz d0 d1 d2 d3
  obtain ⟨⟨s0, s1, s2, s3, s4, s5, s6, s7⟩, ⟨x0, x1, x2, x3, x4, x5, x6, x7, x8⟩, ⟨z0, z1, z2, z3, z4, z5, z6, z7⟩⟩ := HKA.out wc FQ.out
  obtain ⟨⟨r0, r1, r2, r3, r4, r5, r6, r7, r8, r9, r10, r11⟩, hfz⟩ := HRA.out wc FQ.out
  obtain ⟨d0, d1, d2, d3⟩ := HCA.out wc FQ.out
  rcases B with _ | _
  rotate_left
  · go_wp2_with fail
    refine (no_any _ _).mono ?_
    rintro e w9 ⟨rfl, f9⟩
    have hz9 := HZ.out w9 (FQ.out.transNo f9)
    have f8 := fW.transNo (FQ.out.transNo f9)
    obtain ⟨z0, z1, z2, z3, z4, z5, z6, z7⟩ := st_cells (s := stZero) hz9
    simp only at z0 z1 z2 z3 z4 z5 z6 z7
    have q0 := hz9.frozen 0
    have q1 := hz9.frozen 1
    have q2 := hz9.frozen 2
    have q3 := hz9.frozen 3
    have q4 := hz9.frozen 4
    have q5 := hz9.frozen 5
    have q6 := hz9.frozen 6
    have q7 := hz9.frozen 7
    have HZ9 := Lib.hid hz9
    have F8 := Lib.hid f8
    clear hz9 f8
    go_wp2_with fail
    exact bodyPost_ret (v := .tuple #[.agg stZero.arr, .int .i64 4]) (ready_results stZero 4 g3 _ _ (st_fill (z := stZero) stZero HZ9.out) rfl rfl) rfl (StTo.no (by decide) ((st_fill_fr stZero F8.out hgz).mono fun _ h => h.elim) rfl)
  go_upto_region 4 with fail
  go_cut [21] from 22 to 28 (fun x wx => (∃ B : Bool, x = .bool B ∧ (True)) ∧ Fr No wc wx)
  case first =>
    obtain ⟨q0, hq0⟩ : ∃ q : Bool, ((j : Int) != nx) = q := ⟨_, rfl⟩
    all_goals rcases q0 with _ | _
    all_goals go_region
    all_goals (try go_wp2_with fail)
    all_goals go_meet
    all_goals exact ⟨⟨_, rfl, trivial⟩, (by repeat (first | assumption | exact Fr.refl _ _ | refine Fr.alloc ?_ _ | refine Fr.drew ?_ | refine Fr.drewN ?_ _))⟩
  obtain ⟨⟨B, rfl, hB⟩, hcf⟩ := hcut
  replace FQ := Lib.hid (FQ.out.transNo hcf)
  clear hcf
  clear s0 s1 s2 s3 s4 s5 s6 s7 x0 x1 x2 x3 x4 x5 x6 x7 x8 z0 z1 z2 z3 z4 z5 z6 z7 r0 r1 r2 r3 r4 r5 r6 r7 r8 r9 r10 r11 hfz d0 d1 d2 d3
  obtain ⟨⟨s0, s1, s2, s3, s4, s5, s6, s7⟩, ⟨x0, x1, x2, x3, x4, x5, x6, x7, x8⟩, ⟨z0, z1, z2, z3, z4, z5, z6, z7⟩⟩ := HKA.out wc FQ.out
  obtain ⟨⟨r0, r1, r2, r3, r4, r5, r6, r7, r8, r9, r10, r11⟩, hfz⟩ := HRA.out wc FQ.out
  obtain ⟨d0, d1, d2, d3⟩ := HCA.out wc FQ.out
  rcases B with _ | _
  rotate_left
  · go_wp2_with fail
    refine (no_any _ _).mono ?_
    rintro e w9 ⟨rfl, f9⟩
    have hz9 := HZ.out w9 (FQ.out.transNo f9)
    have f8 := fW.transNo (FQ.out.transNo f9)
    obtain ⟨z0, z1, z2, z3, z4, z5, z6, z7⟩ := st_cells (s := stZero) hz9
    simp only at z0 z1 z2 z3 z4 z5 z6 z7
    have q0 := hz9.frozen 0
    have q1 := hz9.frozen 1
    have q2 := hz9.frozen 2
    have q3 := hz9.frozen 3
    have q4 := hz9.frozen 4
    have q5 := hz9.frozen 5
    have q6 := hz9.frozen 6
    have q7 := hz9.frozen 7
    have HZ9 := Lib.hid hz9
    have F8 := Lib.hid f8
    clear hz9 f8
    go_wp2_with fail
    exact bodyPost_ret (v := .tuple #[.agg stZero.arr, .int .i64 5]) (ready_results stZero 5 g3 _ _ (st_fill (z := stZero) stZero HZ9.out) rfl rfl) rfl (StTo.no (by decide) ((st_fill_fr stZero F8.out hgz).mono fun _ h => h.elim) rfl)
  go_upto_region 6 with fail
  go_cut [32] from 33 to 40 (fun x wx => (∃ B : Bool, x = .bool B ∧ (True)) ∧ Fr No wc wx)
  case first =>
    obtain ⟨q0, hq0⟩ : ∃ q : Bool, (md == 3) = q := ⟨_, rfl⟩
    all_goals rcases q0 with _ | _
    all_goals (try go_wp2_with fail)
    all_goals go_meet
    all_goals exact ⟨⟨_, rfl, trivial⟩, (by repeat (first | assumption | exact Fr.refl _ _ | refine Fr.alloc ?_ _ | refine Fr.drew ?_ | refine Fr.drewN ?_ _))⟩
  obtain ⟨⟨B, rfl, hB⟩, hcf⟩ := hcut
  replace FQ := Lib.hid (FQ.out.transNo hcf)
  clear hcf
  clear s0 s1 s2 s3 s4 s5 s6 s7 x0 x1 x2 x3 x4 x5 x6 x7 x8 z0 z1 z2 z3 z4 z5 z6 z7 r0 r1 r2 r3 r4 r5 r6 r7 r8 r9 r10 r11 hfz d0 d1 d2 d3
  obtain ⟨⟨s0, s1, s2, s3, s4, s5, s6, s7⟩, ⟨x0, x1, x2, x3, x4, x5, x6, x7, x8⟩, ⟨z0, z1, z2, z3, z4, z5, z6, z7⟩⟩ := HKA.out wc FQ.out
  obtain ⟨⟨r0, r1, r2, r3, r4, r5, r6, r7, r8, r9, r10, r11⟩, hfz⟩ := HRA.out wc FQ.out
  obtain ⟨d0, d1, d2, d3⟩ := HCA.out wc FQ.out
  rcases B with _ | _
  rotate_left
  · go_wp2_with fail
    refine (no_any _ _).mono ?_
    rintro e w9 ⟨rfl, f9⟩
    have hz9 := HZ.out w9 (FQ.out.transNo f9)
    have f8 := fW.transNo (FQ.out.transNo f9)
    obtain ⟨z0, z1, z2, z3, z4, z5, z6, z7⟩ := st_cells (s := stZero) hz9
    simp only at z0 z1 z2 z3 z4 z5 z6 z7
    have q0 := hz9.frozen 0
    have q1 := hz9.frozen 1
    have q2 := hz9.frozen 2
    have q3 := hz9.frozen 3
    have q4 := hz9.frozen 4
    have q5 := hz9.frozen 5
    have q6 := hz9.frozen 6
    have q7 := hz9.frozen 7
    have HZ9 := Lib.hid hz9
    have F8 := Lib.hid f8
    clear hz9 f8
    go_wp2_with fail
    exact bodyPost_ret (v := .tuple #[.agg stZero.arr, .int .i64 6]) (ready_results stZero 6 g3 _ _ (st_fill (z := stZero) stZero HZ9.out) rfl rfl) rfl (StTo.no (by decide) ((st_fill_fr stZero F8.out hgz).mono fun _ h => h.elim) rfl)
  have hro9 := HROW.out.frNo (fW.transNo FQ.out)
  have hro9 := hro9.setA (t' := ⟨pl, sh, hm, (j : Int), nx, tg, tp, wc_, we, wv, wf, wu⟩) (u := (.int .i64 (j : Int))) (a := i * 12 + 3) (j := 3) (by decide) (by omega) rfl
  have hro9 := hro9.setA (t' := ⟨pl, sh, hm, (j : Int), (-1), tg, tp, wc_, we, wv, wf, wu⟩) (u := (.int .i64 (-1))) (a := i * 12 + 4) (j := 4) (by decide) (by omega) rfl
  have hok9 := hro9.ok ⟨HTO.out.hm, ⟨by show (-1 : Int) ≤ (j : Int); omega, by show (j : Int) < (ms : Int); omega⟩, ⟨Int.le_refl _, by show (-1 : Int) < (ms : Int); omega⟩, HTO.out.tg, HTO.out.pl, HTO.out.sh, HTO.out.nu⟩
  have f9 : Fr G w (((wc).setCell ⟨bt, i * 12 + 3, none⟩ (.int .i64 (j : Int))).setCell ⟨bt, i * 12 + 4, none⟩ (.int .i64 (-1))) := (((fW.transNo FQ.out).mono (fun _ h => h.elim)).setCell (p := ⟨bt, i * 12 + 3, none⟩) (.inl hgb) _).setCell (p := ⟨bt, i * 12 + 4, none⟩) (.inl hgb) _
  have hz9 := ((HZ.out wc FQ.out).fr (fr_set _ ⟨bt, i * 12 + 3, none⟩ (.int .i64 (j : Int))) hm3).fr (fr_set _ ⟨bt, i * 12 + 4, none⟩ (.int .i64 (-1))) hm3
  have q0 := (HZ.out wc FQ.out).frozen 0
  have q1 := (HZ.out wc FQ.out).frozen 1
  have q2 := (HZ.out wc FQ.out).frozen 2
  have q3 := (HZ.out wc FQ.out).frozen 3
  have q4 := (HZ.out wc FQ.out).frozen 4
  have q5 := (HZ.out wc FQ.out).frozen 5
  have q6 := (HZ.out wc FQ.out).frozen 6
  have q7 := (HZ.out wc FQ.out).frozen 7
  have HRO9 := Lib.hid hro9
  have HOK9 := Lib.hid hok9
  have F9 := Lib.hid f9
  have HZ9 := Lib.hid hz9
  clear hro9 hok9 f9 hz9
  have T9 := Lib.hid (StTo.fill (s := ⟨tk, cn, some ⟨bt, 0, none⟩, mt, dt, (some ⟨bs, 0, none⟩), ms, ds, pr, ev, lo, hi⟩) (q := g3) (e := .returned (.tuple #[.agg (St.arr ⟨tk, cn, some ⟨bt, 0, none⟩, mt, dt, (some ⟨bs, 0, none⟩), ms, ds, pr, ev, lo, hi⟩), .int .i64 0])) HOK9.out F9.out hgz hG rfl)
  have T8 := Lib.hid (st_fill (q := g3) (z := stZero) ⟨tk, cn, some ⟨bt, 0, none⟩, mt, dt, (some ⟨bs, 0, none⟩), ms, ds, pr, ev, lo, hi⟩ HZ9.out)
  clear HOK9 F9 HZ9 HRO9
  go_wp2_with fail
  exact bodyPost_ret (v := .tuple #[.agg (St.arr ⟨tk, cn, some ⟨bt, 0, none⟩, mt, dt, (some ⟨bs, 0, none⟩), ms, ds, pr, ev, lo, hi⟩), .int .i64 0]) (ready_results ⟨tk, cn, some ⟨bt, 0, none⟩, mt, dt, (some ⟨bs, 0, none⟩), ms, ds, pr, ev, lo, hi⟩ 0 g3 _ _ T8.out rfl rfl) rfl T9.out
end Go.Proofs.YtanhbebikcoliaaDoor
/- The turns of a tenant's state: cut. -/
namespace Go.Proofs.YtanhbebikcoliaaDoor
open Go.ChangeShapes Go.WideShapes Go.ChangeAt Go.RowKit
set_option linter.unusedVariables false
set_option maxRecDepth 100000 in
set_option maxHeartbeats 8000000 in
theorem cut_any {w : World} {G : Nat → Prop} {c : Cf} {s : St} (h : CfOk w c) (hs : StOk w G c s) (hG : ∀ i, G i → i < w.heap.size) (e : En) (ht1 : 0 ≤ e.tenant) (ht2 : e.tenant < c.nt) :
    Calls Tryd.prog 68 #[.agg s.arr, .agg (EnArr e)] w (StTo w G G c) := by
  obtain ⟨i, hi, hil⟩ := nat_of ht1 ht2
  obtain ⟨bt, t, hto, hrow⟩ := hs.row hil
  have h1 := hrow.bt
  have hgb := hrow.gb
  have hbt := hrow.lt
  have hst := fun W (hf : Fr No w W) => hs.frNo hf
  have hcf := fun W (hf : Fr No w W) => h.frNo hf
  have hms := hs.ms
  have hmt := hs.mt
  obtain ⟨rg, nz, nc, nt, nv, le, bk, bz, bc, bv, cz, cc, ct, cv, At, Ar, nr, cr, Ao, no_, co, bl⟩ := c
  obtain ⟨tk, cn, Bt, mt, dt, Bs, ms, ds, pr, ev, lo, hi⟩ := s
  obtain ⟨kd, et, tn, cl, ot, ep, fm, un, n⟩ := e
  obtain ⟨pl, sh, hm, sb, nx, tg, tp, wc_, we, wv, wf, wu⟩ := t
  simp only at *
  subst hms hmt
  subst h1 hi
  have hix : (0 : Int) ≤ (i : Int) ∧ (i : Int) < (mt : Int) := by omega
  clear hs h ht1 ht2
  obtain ⟨w1, hw1⟩ : ∃ w1, w1 = w.alloc (.cells #[.int .i64 tk, .int .i64 cn, .slice (some ⟨bt, 0, none⟩) mt dt, .slice Bs ms ds, .int .i64 pr, .int .i64 ev, .int .i64 lo, .int .i64 hi] TSt) := ⟨_, rfl⟩
  obtain ⟨g1, hg1⟩ : ∃ g1, g1 = w.heap.size := ⟨_, rfl⟩
  have hb1 : Blk w1 g1 TSt #[.int .i64 tk, .int .i64 cn, .slice (some ⟨bt, 0, none⟩) mt dt, .slice Bs ms ds, .int .i64 pr, .int .i64 ev, .int .i64 lo, .int .i64 hi] := by rw [hw1, hg1]; exact Blk.new _ _ _
  have f1 : Fr No w w1 := by rw [hw1]; exact fr_alloc _ _
  have hs1 : w1.heap.size = g1 + 1 := by rw [hw1, hg1]; simp
  obtain ⟨w2, hw2⟩ : ∃ w2, w2 = w1.alloc (.cells #[.int .i64 kd, .int .i64 et, .int .i64 (i : Int), .int .i64 cl, .int .i64 ot, .int .i64 ep, .int .i64 fm, .int .i64 un, .int .i64 n] TEm) := ⟨_, rfl⟩
  obtain ⟨g2, hg2⟩ : ∃ g2, g2 = w1.heap.size := ⟨_, rfl⟩
  have hb2 : Blk w2 g2 TEm #[.int .i64 kd, .int .i64 et, .int .i64 (i : Int), .int .i64 cl, .int .i64 ot, .int .i64 ep, .int .i64 fm, .int .i64 un, .int .i64 n] := by rw [hw2, hg2]; exact Blk.new _ _ _
  have f2 : Fr No w1 w2 := by rw [hw2]; exact fr_alloc _ _
  have hs2 : w2.heap.size = g2 + 1 := by rw [hw2, hg2]; simp
  obtain ⟨w3, hw3⟩ : ∃ w3, w3 = w2.alloc (.cells #[.int .i64 0, .int .i64 0, .slice none 0 0, .slice none 0 0, .int .i64 0, .int .i64 0, .int .i64 0, .int .i64 0] TSt) := ⟨_, rfl⟩
  obtain ⟨g3, hg3⟩ : ∃ g3, g3 = w2.heap.size := ⟨_, rfl⟩
  have hb3 : Blk w3 g3 TSt #[.int .i64 0, .int .i64 0, .slice none 0 0, .slice none 0 0, .int .i64 0, .int .i64 0, .int .i64 0, .int .i64 0] := by rw [hw3, hg3]; exact Blk.new _ _ _
  have f3 : Fr No w2 w3 := by rw [hw3]; exact fr_alloc _ _
  have hs3 : w3.heap.size = g3 + 1 := by rw [hw3, hg3]; simp
  have hB1 : Blk w3 g1 TSt #[.int .i64 tk, .int .i64 cn, .slice (some ⟨bt, 0, none⟩) mt dt, .slice Bs ms ds, .int .i64 pr, .int .i64 ev, .int .i64 lo, .int .i64 hi] := hb1.fr (((Fr.refl No _).transNo f2).transNo f3) (fun h => h)
  have hB2 : Blk w3 g2 TEm #[.int .i64 kd, .int .i64 et, .int .i64 (i : Int), .int .i64 cl, .int .i64 ot, .int .i64 ep, .int .i64 fm, .int .i64 un, .int .i64 n] := hb2.fr ((Fr.refl No _).transNo f3) (fun h => h)
  have hB3 : Blk w3 g3 TSt #[.int .i64 0, .int .i64 0, .slice none 0 0, .slice none 0 0, .int .i64 0, .int .i64 0, .int .i64 0, .int .i64 0] := hb3.fr (Fr.refl No _) (fun h => h)
  have fW : Fr No w w3 := (((Fr.refl No w).transNo f1).transNo f2).transNo f3
  have he2 : g2 = g1 + 1 := by rw [hg2, hs1]
  have he3 : g3 = g1 + 2 := by rw [hg3, hs2]; rw [he2]
  have hka : ∀ V, Fr No w3 V → (V.cell? ⟨g1, 0, none⟩ = some (.int .i64 tk) ∧ V.cell? ⟨g1, 1, none⟩ = some (.int .i64 cn) ∧ V.cell? ⟨g1, 2, none⟩ = some (.slice (some ⟨bt, 0, none⟩) mt dt) ∧ V.cell? ⟨g1, 3, none⟩ = some (.slice Bs ms ds) ∧ V.cell? ⟨g1, 4, none⟩ = some (.int .i64 pr) ∧ V.cell? ⟨g1, 5, none⟩ = some (.int .i64 ev) ∧ V.cell? ⟨g1, 6, none⟩ = some (.int .i64 lo) ∧ V.cell? ⟨g1, 7, none⟩ = some (.int .i64 hi)) ∧ (V.cell? ⟨g2, 0, none⟩ = some (.int .i64 kd) ∧ V.cell? ⟨g2, 1, none⟩ = some (.int .i64 et) ∧ V.cell? ⟨g2, 2, none⟩ = some (.int .i64 (i : Int)) ∧ V.cell? ⟨g2, 3, none⟩ = some (.int .i64 cl) ∧ V.cell? ⟨g2, 4, none⟩ = some (.int .i64 ot) ∧ V.cell? ⟨g2, 5, none⟩ = some (.int .i64 ep) ∧ V.cell? ⟨g2, 6, none⟩ = some (.int .i64 fm) ∧ V.cell? ⟨g2, 7, none⟩ = some (.int .i64 un) ∧ V.cell? ⟨g2, 8, none⟩ = some (.int .i64 n)) ∧ (V.cell? ⟨g3, 0, none⟩ = some (.int .i64 0) ∧ V.cell? ⟨g3, 1, none⟩ = some (.int .i64 0) ∧ V.cell? ⟨g3, 2, none⟩ = some (.slice none 0 0) ∧ V.cell? ⟨g3, 3, none⟩ = some (.slice none 0 0) ∧ V.cell? ⟨g3, 4, none⟩ = some (.int .i64 0) ∧ V.cell? ⟨g3, 5, none⟩ = some (.int .i64 0) ∧ V.cell? ⟨g3, 6, none⟩ = some (.int .i64 0) ∧ V.cell? ⟨g3, 7, none⟩ = some (.int .i64 0)) := fun V hf => ⟨(let k := hB1.fr hf (fun h => h); ⟨k.cell 0, k.cell 1, k.cell 2, k.cell 3, k.cell 4, k.cell 5, k.cell 6, k.cell 7⟩), (let k := hB2.fr hf (fun h => h); ⟨k.cell 0, k.cell 1, k.cell 2, k.cell 3, k.cell 4, k.cell 5, k.cell 6, k.cell 7, k.cell 8⟩), (let k := hB3.fr hf (fun h => h); ⟨k.cell 0, k.cell 1, k.cell 2, k.cell 3, k.cell 4, k.cell 5, k.cell 6, k.cell 7⟩)⟩
  have hW : w3 = ((w.alloc (.cells #[.int .i64 tk, .int .i64 cn, .slice (some ⟨bt, 0, none⟩) mt dt, .slice Bs ms ds, .int .i64 pr, .int .i64 ev, .int .i64 lo, .int .i64 hi] TSt)).alloc (.cells #[.int .i64 kd, .int .i64 et, .int .i64 (i : Int), .int .i64 cl, .int .i64 ot, .int .i64 ep, .int .i64 fm, .int .i64 un, .int .i64 n] TEm)).alloc (.cells #[.int .i64 0, .int .i64 0, .slice none 0 0, .slice none 0 0, .int .i64 0, .int .i64 0, .int .i64 0, .int .i64 0] TSt) := by rw [hw3, hw2, hw1]
  have hl1 : g1 < w3.heap.size := hB1.lt
  have hl2 : g2 < w3.heap.size := hB2.lt
  have hl3 : g3 < w3.heap.size := hB3.lt
  clear hw1 hb1 hs1 hw2 hb2 hs2 hw3 hb3 hs3
  have HG1 := Lib.hid hg1
  have HG2 := Lib.hid hg2
  have HG3 := Lib.hid hg3
  have HE2 := Lib.hid he2
  have HE3 := Lib.hid he3
  clear hg1 hg2 hg3 he2 he3
  have hra := fun V (hV : Fr No w3 V) => hrow.at_ V (fW.transNo hV)
  have hz := fun V (hV : Fr No w3 V) => hB3.fr hV (fun h => h)
  have hgz : w.heap.size ≤ g3 := by rw [HE3.out, HG1.out]; omega
  have hbt3 : bt < w3.heap.size := Nat.lt_of_lt_of_le hbt fW.size
  have hn1 : bt ≠ g1 := by have := HG1.out; omega
  have hn2 : bt ≠ g2 := by have := HG1.out; have := HE2.out; omega
  have hn3 : bt ≠ g3 := by have := HG1.out; have := HE3.out; omega
  have hm1 : g1 ≠ bt := fun h => hn1 h.symm
  have hm2 : g2 ≠ bt := fun h => hn2 h.symm
  have hm3 : g3 ≠ bt := fun h => hn3 h.symm
  have HST := Lib.hid hst
  have HCF := Lib.hid hcf
  have HKA := Lib.hid hka
  have HW := Lib.hid hW
  have HRA := Lib.hid hra
  have HZ := Lib.hid hz
  have HTO := Lib.hid hto
  have HROW := Lib.hid hrow
  clear hst hcf hka hW hra hz hto hrow
  go_enter Tryd.func68, Tryd.ntmps68
  go_upto_region 1 with fail
  rw [← HW.out]
  try rw [← show g3 = w.heap.size + 2 from by rw [HE3.out, HG1.out]]
  try rw [← show g2 = w.heap.size + 1 from by rw [HE2.out, HG1.out]]
  try rw [← HG1.out]
  have FQ := Lib.hid (Fr.refl No w3)
  obtain ⟨⟨s0, s1, s2, s3, s4, s5, s6, s7⟩, ⟨x0, x1, x2, x3, x4, x5, x6, x7, x8⟩, ⟨z0, z1, z2, z3, z4, z5, z6, z7⟩⟩ := HKA.out w3 FQ.out
  obtain ⟨⟨r0, r1, r2, r3, r4, r5, r6, r7, r8, r9, r10, r11⟩, hfz⟩ := HRA.out w3 FQ.out
  go_upto_region 2 with fail
  go_cut [12] from 13 to 17 (fun x wx => (∃ B : Bool, x = .bool B ∧ (True)) ∧ Fr No w3 wx)
  case first =>
    rcases pl with _ | _
    all_goals (try go_wp2_with fail)
    all_goals go_meet
    all_goals exact ⟨⟨_, rfl, trivial⟩, (by repeat (first | assumption | exact Fr.refl _ _ | refine Fr.alloc ?_ _ | refine Fr.drew ?_ | refine Fr.drewN ?_ _))⟩
  obtain ⟨⟨B, rfl, hB⟩, hcf⟩ := hcut
  replace FQ := Lib.hid (FQ.out.transNo hcf)
  clear hcf
  clear s0 s1 s2 s3 s4 s5 s6 s7 x0 x1 x2 x3 x4 x5 x6 x7 x8 z0 z1 z2 z3 z4 z5 z6 z7 r0 r1 r2 r3 r4 r5 r6 r7 r8 r9 r10 r11 hfz
  obtain ⟨⟨s0, s1, s2, s3, s4, s5, s6, s7⟩, ⟨x0, x1, x2, x3, x4, x5, x6, x7, x8⟩, ⟨z0, z1, z2, z3, z4, z5, z6, z7⟩⟩ := HKA.out wc FQ.out
  obtain ⟨⟨r0, r1, r2, r3, r4, r5, r6, r7, r8, r9, r10, r11⟩, hfz⟩ := HRA.out wc FQ.out
  rcases B with _ | _
  rotate_left
  · go_wp2_with fail
    refine (no_any _ _).mono ?_
    rintro e w9 ⟨rfl, f9⟩
    have hz9 := HZ.out w9 (FQ.out.transNo f9)
    have f8 := fW.transNo (FQ.out.transNo f9)
    obtain ⟨z0, z1, z2, z3, z4, z5, z6, z7⟩ := st_cells (s := stZero) hz9
    simp only at z0 z1 z2 z3 z4 z5 z6 z7
    have q0 := hz9.frozen 0
    have q1 := hz9.frozen 1
    have q2 := hz9.frozen 2
    have q3 := hz9.frozen 3
    have q4 := hz9.frozen 4
    have q5 := hz9.frozen 5
    have q6 := hz9.frozen 6
    have q7 := hz9.frozen 7
    have HZ9 := Lib.hid hz9
    have F8 := Lib.hid f8
    clear hz9 f8
    go_wp2_with fail
    exact bodyPost_ret (v := .tuple #[.agg stZero.arr, .int .i64 4]) (cut_results stZero 4 g3 _ _ (st_fill (z := stZero) stZero HZ9.out) rfl rfl) rfl (StTo.no (by decide) ((st_fill_fr stZero F8.out hgz).mono fun _ h => h.elim) rfl)
  go_upto_region 4 with fail
  go_cut [21] from 22 to 28 (fun x wx => (∃ B : Bool, x = .bool B ∧ (True)) ∧ Fr No wc wx)
  case first =>
    obtain ⟨q0, hq0⟩ : ∃ q : Bool, (ep != tp) = q := ⟨_, rfl⟩
    all_goals rcases q0 with _ | _
    all_goals go_region
    all_goals (try go_wp2_with fail)
    all_goals go_meet
    all_goals exact ⟨⟨_, rfl, trivial⟩, (by repeat (first | assumption | exact Fr.refl _ _ | refine Fr.alloc ?_ _ | refine Fr.drew ?_ | refine Fr.drewN ?_ _))⟩
  obtain ⟨⟨B, rfl, hB⟩, hcf⟩ := hcut
  replace FQ := Lib.hid (FQ.out.transNo hcf)
  clear hcf
  clear s0 s1 s2 s3 s4 s5 s6 s7 x0 x1 x2 x3 x4 x5 x6 x7 x8 z0 z1 z2 z3 z4 z5 z6 z7 r0 r1 r2 r3 r4 r5 r6 r7 r8 r9 r10 r11 hfz
  obtain ⟨⟨s0, s1, s2, s3, s4, s5, s6, s7⟩, ⟨x0, x1, x2, x3, x4, x5, x6, x7, x8⟩, ⟨z0, z1, z2, z3, z4, z5, z6, z7⟩⟩ := HKA.out wc FQ.out
  obtain ⟨⟨r0, r1, r2, r3, r4, r5, r6, r7, r8, r9, r10, r11⟩, hfz⟩ := HRA.out wc FQ.out
  rcases B with _ | _
  rotate_left
  · go_wp2_with fail
    refine (no_any _ _).mono ?_
    rintro e w9 ⟨rfl, f9⟩
    have hz9 := HZ.out w9 (FQ.out.transNo f9)
    have f8 := fW.transNo (FQ.out.transNo f9)
    obtain ⟨z0, z1, z2, z3, z4, z5, z6, z7⟩ := st_cells (s := stZero) hz9
    simp only at z0 z1 z2 z3 z4 z5 z6 z7
    have q0 := hz9.frozen 0
    have q1 := hz9.frozen 1
    have q2 := hz9.frozen 2
    have q3 := hz9.frozen 3
    have q4 := hz9.frozen 4
    have q5 := hz9.frozen 5
    have q6 := hz9.frozen 6
    have q7 := hz9.frozen 7
    have HZ9 := Lib.hid hz9
    have F8 := Lib.hid f8
    clear hz9 f8
    go_wp2_with fail
    exact bodyPost_ret (v := .tuple #[.agg stZero.arr, .int .i64 7]) (cut_results stZero 7 g3 _ _ (st_fill (z := stZero) stZero HZ9.out) rfl rfl) rfl (StTo.no (by decide) ((st_fill_fr stZero F8.out hgz).mono fun _ h => h.elim) rfl)
  go_upto_region 6 with fail
  go_region_law (first
    | (go_simp; go_at_call 84; refine (cutw_any _ _ _ _ _ _ _ HTO.out.nu.2).mono ?_; rintro e w5 ⟨fo, uo, rfl, huo, f5⟩; have HUO := Lib.hid huo; clear huo; have Q5 : Fr No w3 w5 := (FQ.out.transNo (by repeat (first | assumption | exact Fr.refl _ _ | refine Fr.alloc ?_ _ | refine Fr.drew ?_ | refine Fr.drewN ?_ _))).transNo f5; clear f5; obtain ⟨⟨t_0, t_1, t_2, t_3, t_4, t_5, t_6, t_7⟩, ⟨u_0, u_1, u_2, u_3, u_4, u_5, u_6, u_7, u_8⟩, ⟨v_0, v_1, v_2, v_3, v_4, v_5, v_6, v_7⟩⟩ := HKA.out w5 Q5; obtain ⟨⟨p_0, p_1, p_2, p_3, p_4, p_5, p_6, p_7, p_8, p_9, p_10, p_11⟩, hfz⟩ := HRA.out w5 Q5; skip))
  all_goals
    have hro9 := HROW.out.frNo (fW.transNo Q5)
    have hro9 := hro9.setA (t' := ⟨pl, sh, hm, sb, nx, tg, tp, wc_, we, wv, wf, wu⟩) (u := (.int .i64 wc_)) (a := i * 12 + 7) (j := 7) (by decide) (by omega) rfl
    have hro9 := hro9.setA (t' := ⟨pl, sh, hm, sb, nx, tg, tp, wc_, we, wv, wf, wu⟩) (u := (.int .i64 we)) (a := i * 12 + 7 + 1) (j := 8) (by decide) (by omega) rfl
    have hro9 := hro9.setA (t' := ⟨pl, sh, hm, sb, nx, tg, tp, wc_, we, wv, wf, wu⟩) (u := (.int .i64 wv)) (a := i * 12 + 7 + 2) (j := 9) (by decide) (by omega) rfl
    have hro9 := hro9.setA (t' := ⟨pl, sh, hm, sb, nx, tg, tp, wc_, we, wv, fo, wu⟩) (u := (.int .i64 fo)) (a := i * 12 + 7 + 3) (j := 10) (by decide) (by omega) rfl
    have hro9 := hro9.setA (t' := ⟨pl, sh, hm, sb, nx, tg, tp, wc_, we, wv, fo, uo⟩) (u := (.int .i64 uo)) (a := i * 12 + 7 + 4) (j := 11) (by decide) (by omega) rfl
    have hok9 := hro9.ok ⟨HTO.out.hm, HTO.out.sb, HTO.out.nx, HTO.out.tg, HTO.out.pl, HTO.out.sh, ⟨HTO.out.nu.1, HUO.out⟩⟩
    have f9 : Fr G w ((((((w5).setCell ⟨bt, i * 12 + 7, none⟩ (.int .i64 wc_)).setCell ⟨bt, i * 12 + 7 + 1, none⟩ (.int .i64 we)).setCell ⟨bt, i * 12 + 7 + 2, none⟩ (.int .i64 wv)).setCell ⟨bt, i * 12 + 7 + 3, none⟩ (.int .i64 fo)).setCell ⟨bt, i * 12 + 7 + 4, none⟩ (.int .i64 uo)) := ((((((fW.transNo Q5).mono (fun _ h => h.elim)).setCell (p := ⟨bt, i * 12 + 7, none⟩) (.inl hgb) _).setCell (p := ⟨bt, i * 12 + 7 + 1, none⟩) (.inl hgb) _).setCell (p := ⟨bt, i * 12 + 7 + 2, none⟩) (.inl hgb) _).setCell (p := ⟨bt, i * 12 + 7 + 3, none⟩) (.inl hgb) _).setCell (p := ⟨bt, i * 12 + 7 + 4, none⟩) (.inl hgb) _
    have hz9 := (((((HZ.out w5 Q5).fr (fr_set _ ⟨bt, i * 12 + 7, none⟩ (.int .i64 wc_)) hm3).fr (fr_set _ ⟨bt, i * 12 + 7 + 1, none⟩ (.int .i64 we)) hm3).fr (fr_set _ ⟨bt, i * 12 + 7 + 2, none⟩ (.int .i64 wv)) hm3).fr (fr_set _ ⟨bt, i * 12 + 7 + 3, none⟩ (.int .i64 fo)) hm3).fr (fr_set _ ⟨bt, i * 12 + 7 + 4, none⟩ (.int .i64 uo)) hm3
    have q0 := (HZ.out w5 Q5).frozen 0
    have q1 := (HZ.out w5 Q5).frozen 1
    have q2 := (HZ.out w5 Q5).frozen 2
    have q3 := (HZ.out w5 Q5).frozen 3
    have q4 := (HZ.out w5 Q5).frozen 4
    have q5 := (HZ.out w5 Q5).frozen 5
    have q6 := (HZ.out w5 Q5).frozen 6
    have q7 := (HZ.out w5 Q5).frozen 7
    have HRO9 := Lib.hid hro9
    have HOK9 := Lib.hid hok9
    have F9 := Lib.hid f9
    have HZ9 := Lib.hid hz9
    clear hro9 hok9 f9 hz9
    have T9 := Lib.hid (StTo.fill (s := ⟨tk, cn, some ⟨bt, 0, none⟩, mt, dt, Bs, ms, ds, pr, ev, lo, hi⟩) (q := g3) (e := .returned (.tuple #[.agg (St.arr ⟨tk, cn, some ⟨bt, 0, none⟩, mt, dt, Bs, ms, ds, pr, ev, lo, hi⟩), .int .i64 0])) HOK9.out F9.out hgz hG rfl)
    have T8 := Lib.hid (st_fill (q := g3) (z := stZero) ⟨tk, cn, some ⟨bt, 0, none⟩, mt, dt, Bs, ms, ds, pr, ev, lo, hi⟩ HZ9.out)
    clear HOK9 F9 HZ9 HRO9
    go_wp2_with fail
    exact bodyPost_ret (v := .tuple #[.agg (St.arr ⟨tk, cn, some ⟨bt, 0, none⟩, mt, dt, Bs, ms, ds, pr, ev, lo, hi⟩), .int .i64 0]) (cut_results ⟨tk, cn, some ⟨bt, 0, none⟩, mt, dt, Bs, ms, ds, pr, ev, lo, hi⟩ 0 g3 _ _ T8.out rfl rfl) rfl T9.out
end Go.Proofs.YtanhbebikcoliaaDoor
/- Calls that only read: their answers, fixed ahead. -/
namespace Go.Proofs.YtanhbebikcoliaaDoor
open Go.ChangeShapes Go.WideShapes Go.ChangeAt Go.RowKit
set_option linter.unusedVariables false
def AnsB (w : World) (b : Bool) (e : Ending) (w' : World) : Prop := e = .returned (.bool b) ∧ Fr No w w'
def AnsI (w : World) (x : Int) (e : Ending) (w' : World) : Prop := e = .returned (.int .i64 x) ∧ Fr No w w'
set_option maxHeartbeats 2000000 in
theorem zoneOf_fix {w : World} {c : Cf} (h : CfOk w c) (i : Int) : ∃ z : Int, -1 ≤ z ∧ z ≤ (c.nz : Int) - 1 ∧ ∀ V, Fr No w V → Calls Tryd.prog 79 #[.agg c.arr, .int .i64 i] V (AnsI V z) := by
  have hnc := h.nc1
  have hb := h.bcl
  have hcell := h.cell
  have hnz := h.nz1
  obtain ⟨rg, nz, nc, nt, nv, le, bk, bz, bc, bv, cz, cc, ct, cv, At, Ar, nr, cr, Ao, no_, co, bl⟩ := c
  simp only at *
  clear h
  by_cases h1 : i < 0
  · have b1 : decide (i < 0) = true := decide_eq_true h1
    clear hcell
    refine ⟨-1, by omega, by omega, fun V hV => ?_⟩
    go_enter Tryd.func79, Tryd.ntmps79
    go_wp2_with fail
    go_ret
    exact ⟨rfl, fr_alloc _ _⟩
  · have b1 : decide (i < 0) = false := decide_eq_false h1
    by_cases h2 : (nc : Int) ≤ i
    · have b2 : decide ((nc : Int) ≤ i) = true := decide_eq_true h2
      clear hcell
      refine ⟨-1, by omega, by omega, fun V hV => ?_⟩
      go_enter Tryd.func79, Tryd.ntmps79
      go_wp2_with fail
      go_ret
      exact ⟨rfl, fr_alloc _ _⟩
    · have b2 : decide ((nc : Int) ≤ i) = false := decide_eq_false h2
      obtain ⟨k, rfl, hk⟩ := nat_of (i := i) (n := nc) (by omega) (by omega)
      obtain ⟨z, a, hz, c0, c1⟩ := hcell k hk
      refine ⟨z, by omega, by omega, fun V hV => ?_⟩
      have c2 : V.cell? ⟨bc, k * 2, none⟩ = some (.int .i64 (z : Int)) := (hV.cell (p := ⟨bc, k * 2, none⟩) hb (fun h => h)).trans c0
      have hbV : bc < V.heap.size := Nat.lt_of_lt_of_le hb hV.size
      have hix : (0 : Int) ≤ (k : Int) ∧ (k : Int) < (nc : Int) := by omega
      clear hcell h1 h2 c0 c1 hb hV
      go_enter Tryd.func79, Tryd.ntmps79
      go_wp2_with fail
      go_ret
      exact ⟨rfl, fr_alloc _ _⟩
set_option maxHeartbeats 2000000 in
theorem regionOf_fix {w : World} {c : Cf} (h : CfOk w c) (i : Int) : ∃ x : Int, -1 ≤ x ∧ x ≤ (c.rg : Int) - 1 ∧ ∀ V, Fr No w V → Calls Tryd.prog 63 #[.agg c.arr, .int .i64 i] V (AnsI V x) := by
  obtain ⟨z, z1, z2, hz⟩ := zoneOf_fix h i
  have hb := h.bzl
  have hzn := h.zone
  have hrg := h.rg1
  by_cases h1 : z < 0
  · have b1 : decide (z < 0) = true := decide_eq_true h1
    refine ⟨-1, by omega, by omega, fun V hV => ?_⟩
    have hz2 := fun W (hf : Fr No V W) => hz W (hV.transNo hf)
    obtain ⟨rg, nz, nc, nt, nv, le, bk, bz, bc, bv, cz, cc, ct, cv, At, Ar, nr, cr, Ao, no_, co, bl⟩ := c
    simp only at *
    clear h hz hzn hb hrg
    obtain ⟨w1, hw1⟩ : ∃ w1, w1 = V.alloc (.cells #[.int .i64 (rg : Int), .slice (some ⟨bz, 0, none⟩) nz cz, .slice (some ⟨bc, 0, none⟩) nc cc, .slice At nt ct, .slice (some ⟨bv, 0, none⟩) nv cv, .slice Ar nr cr, .slice Ao no_ co, .int .i64 bl, .int .i64 (le : Int), .int .i64 (bk : Int)] TCf) := ⟨_, rfl⟩
    obtain ⟨g1, hg1⟩ : ∃ g1, g1 = V.heap.size := ⟨_, rfl⟩
    have hb1 : Blk w1 g1 TCf #[.int .i64 (rg : Int), .slice (some ⟨bz, 0, none⟩) nz cz, .slice (some ⟨bc, 0, none⟩) nc cc, .slice At nt ct, .slice (some ⟨bv, 0, none⟩) nv cv, .slice Ar nr cr, .slice Ao no_ co, .int .i64 bl, .int .i64 (le : Int), .int .i64 (bk : Int)] := by rw [hw1, hg1]; exact Blk.new _ _ _
    have f1 : Fr No V w1 := by rw [hw1]; exact fr_alloc _ _
    have hs1 : w1.heap.size = g1 + 1 := by rw [hw1, hg1]; simp
    have hB1 : Blk w1 g1 TCf #[.int .i64 (rg : Int), .slice (some ⟨bz, 0, none⟩) nz cz, .slice (some ⟨bc, 0, none⟩) nc cc, .slice At nt ct, .slice (some ⟨bv, 0, none⟩) nv cv, .slice Ar nr cr, .slice Ao no_ co, .int .i64 bl, .int .i64 (le : Int), .int .i64 (bk : Int)] := hb1.fr (Fr.refl No _) (fun h => h)
    have fW : Fr No V w1 := (Fr.refl No V).transNo f1
    have hka : ∀ V, Fr No w1 V → (V.cell? ⟨g1, 0, none⟩ = some (.int .i64 (rg : Int)) ∧ V.cell? ⟨g1, 1, none⟩ = some (.slice (some ⟨bz, 0, none⟩) nz cz) ∧ V.cell? ⟨g1, 2, none⟩ = some (.slice (some ⟨bc, 0, none⟩) nc cc) ∧ V.cell? ⟨g1, 3, none⟩ = some (.slice At nt ct) ∧ V.cell? ⟨g1, 4, none⟩ = some (.slice (some ⟨bv, 0, none⟩) nv cv) ∧ V.cell? ⟨g1, 5, none⟩ = some (.slice Ar nr cr) ∧ V.cell? ⟨g1, 6, none⟩ = some (.slice Ao no_ co) ∧ V.cell? ⟨g1, 7, none⟩ = some (.int .i64 bl) ∧ V.cell? ⟨g1, 8, none⟩ = some (.int .i64 (le : Int)) ∧ V.cell? ⟨g1, 9, none⟩ = some (.int .i64 (bk : Int))) := fun V hf => (let k := hB1.fr hf (fun h => h); ⟨k.cell 0, k.cell 1, k.cell 2, k.cell 3, k.cell 4, k.cell 5, k.cell 6, k.cell 7, k.cell 8, k.cell 9⟩)
    have hW : w1 = V.alloc (.cells #[.int .i64 (rg : Int), .slice (some ⟨bz, 0, none⟩) nz cz, .slice (some ⟨bc, 0, none⟩) nc cc, .slice At nt ct, .slice (some ⟨bv, 0, none⟩) nv cv, .slice Ar nr cr, .slice Ao no_ co, .int .i64 bl, .int .i64 (le : Int), .int .i64 (bk : Int)] TCf) := by rw [hw1]
    have hl1 : g1 < w1.heap.size := hB1.lt
    clear hw1 hb1 hs1
    have HG1 := Lib.hid hg1
    clear hg1
    have HZ2 := Lib.hid hz2
    have HKA := Lib.hid hka
    have HW := Lib.hid hW
    clear hz2 hka hW
    go_enter Tryd.func63, Tryd.ntmps63
    go_upto_region 1 with fail
    rw [← HW.out]
    try rw [← HG1.out]
    obtain ⟨e0, e1, e2, e3, e4, e5, e6, e7, e8, e9⟩ := HKA.out w1 (Fr.refl _ _)
    go_wp2_with fail
    refine (HZ2.out _ fW).mono ?_
    rintro e w2 ⟨rfl, f2⟩
    obtain ⟨y0, y1, y2, y3, y4, y5, y6, y7, y8, y9⟩ := HKA.out w2 f2
    go_wp2_with fail
    go_ret
    exact ⟨rfl, fW.transNo f2⟩
  · have b1 : decide (z < 0) = false := decide_eq_false h1
    obtain ⟨k, rfl, hk⟩ := nat_of (i := z) (n := c.nz) (by omega) (by omega)
    obtain ⟨r, hr, e0⟩ := hzn k hk
    refine ⟨r, by omega, by omega, fun V hV => ?_⟩
    have hz2 := fun W (hf : Fr No V W) => hz W (hV.transNo hf)
    have hc2 := fun W (hf : Fr No V W) => ((hV.transNo hf).cell (p := ⟨c.bz, k, none⟩) hb (fun h => h)).trans e0
    obtain ⟨rg, nz, nc, nt, nv, le, bk, bz, bc, bv, cz, cc, ct, cv, At, Ar, nr, cr, Ao, no_, co, bl⟩ := c
    simp only at *
    have hix : (0 : Int) ≤ (k : Int) ∧ (k : Int) < (nz : Int) := by omega
    clear h hz hzn hb hrg e0
    obtain ⟨w1, hw1⟩ : ∃ w1, w1 = V.alloc (.cells #[.int .i64 (rg : Int), .slice (some ⟨bz, 0, none⟩) nz cz, .slice (some ⟨bc, 0, none⟩) nc cc, .slice At nt ct, .slice (some ⟨bv, 0, none⟩) nv cv, .slice Ar nr cr, .slice Ao no_ co, .int .i64 bl, .int .i64 (le : Int), .int .i64 (bk : Int)] TCf) := ⟨_, rfl⟩
    obtain ⟨g1, hg1⟩ : ∃ g1, g1 = V.heap.size := ⟨_, rfl⟩
    have hb1 : Blk w1 g1 TCf #[.int .i64 (rg : Int), .slice (some ⟨bz, 0, none⟩) nz cz, .slice (some ⟨bc, 0, none⟩) nc cc, .slice At nt ct, .slice (some ⟨bv, 0, none⟩) nv cv, .slice Ar nr cr, .slice Ao no_ co, .int .i64 bl, .int .i64 (le : Int), .int .i64 (bk : Int)] := by rw [hw1, hg1]; exact Blk.new _ _ _
    have f1 : Fr No V w1 := by rw [hw1]; exact fr_alloc _ _
    have hs1 : w1.heap.size = g1 + 1 := by rw [hw1, hg1]; simp
    have hB1 : Blk w1 g1 TCf #[.int .i64 (rg : Int), .slice (some ⟨bz, 0, none⟩) nz cz, .slice (some ⟨bc, 0, none⟩) nc cc, .slice At nt ct, .slice (some ⟨bv, 0, none⟩) nv cv, .slice Ar nr cr, .slice Ao no_ co, .int .i64 bl, .int .i64 (le : Int), .int .i64 (bk : Int)] := hb1.fr (Fr.refl No _) (fun h => h)
    have fW : Fr No V w1 := (Fr.refl No V).transNo f1
    have hka : ∀ V, Fr No w1 V → (V.cell? ⟨g1, 0, none⟩ = some (.int .i64 (rg : Int)) ∧ V.cell? ⟨g1, 1, none⟩ = some (.slice (some ⟨bz, 0, none⟩) nz cz) ∧ V.cell? ⟨g1, 2, none⟩ = some (.slice (some ⟨bc, 0, none⟩) nc cc) ∧ V.cell? ⟨g1, 3, none⟩ = some (.slice At nt ct) ∧ V.cell? ⟨g1, 4, none⟩ = some (.slice (some ⟨bv, 0, none⟩) nv cv) ∧ V.cell? ⟨g1, 5, none⟩ = some (.slice Ar nr cr) ∧ V.cell? ⟨g1, 6, none⟩ = some (.slice Ao no_ co) ∧ V.cell? ⟨g1, 7, none⟩ = some (.int .i64 bl) ∧ V.cell? ⟨g1, 8, none⟩ = some (.int .i64 (le : Int)) ∧ V.cell? ⟨g1, 9, none⟩ = some (.int .i64 (bk : Int))) := fun V hf => (let k := hB1.fr hf (fun h => h); ⟨k.cell 0, k.cell 1, k.cell 2, k.cell 3, k.cell 4, k.cell 5, k.cell 6, k.cell 7, k.cell 8, k.cell 9⟩)
    have hW : w1 = V.alloc (.cells #[.int .i64 (rg : Int), .slice (some ⟨bz, 0, none⟩) nz cz, .slice (some ⟨bc, 0, none⟩) nc cc, .slice At nt ct, .slice (some ⟨bv, 0, none⟩) nv cv, .slice Ar nr cr, .slice Ao no_ co, .int .i64 bl, .int .i64 (le : Int), .int .i64 (bk : Int)] TCf) := by rw [hw1]
    have hl1 : g1 < w1.heap.size := hB1.lt
    clear hw1 hb1 hs1
    have HG1 := Lib.hid hg1
    clear hg1
    have HZ2 := Lib.hid hz2
    have HC2 := Lib.hid hc2
    have HKA := Lib.hid hka
    have HW := Lib.hid hW
    clear hz2 hc2 hka hW
    go_enter Tryd.func63, Tryd.ntmps63
    go_upto_region 1 with fail
    rw [← HW.out]
    try rw [← HG1.out]
    obtain ⟨e0, e1, e2, e3, e4, e5, e6, e7, e8, e9⟩ := HKA.out w1 (Fr.refl _ _)
    go_wp2_with fail
    refine (HZ2.out _ fW).mono ?_
    rintro e w2 ⟨rfl, f2⟩
    obtain ⟨y0, y1, y2, y3, y4, y5, y6, y7, y8, y9⟩ := HKA.out w2 f2
    have e1 := HC2.out w2 (fW.transNo f2)
    go_wp2_with fail
    go_ret
    exact ⟨rfl, fW.transNo f2⟩
end Go.Proofs.YtanhbebikcoliaaDoor
