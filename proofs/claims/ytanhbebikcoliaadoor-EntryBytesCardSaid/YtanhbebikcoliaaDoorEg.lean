/-
  grant.
-/
import Derived.Test.YtanhbebikcoliaaDoorG12
namespace Go.Proofs.YtanhbebikcoliaaDoor
open Go.ChangeShapes Go.WideShapes Go.ChangeAt Go.RowKit
set_option linter.unusedVariables false
set_option maxRecDepth 100000 in
set_option maxHeartbeats 8000000 in
theorem grantm_any {w : World} {t : Nat} {A : Option Addr} {nl cp k : Nat} {G : Nat → Prop} {c : Cf} {s : St} (hT : Tp w t A nl cp k) (hk : k ≤ 999000) (h : CfOk w c) (hs : StOk w G c s) (e : En) (he : EnOk e) (ht1 : 0 ≤ e.tenant) (ht2 : e.tenant < c.nt)
    (hp : ∀ b, s.Bt = some ⟨b, 0, none⟩ → w.cell? ⟨b, e.tenant.toNat * 12, none⟩ = some (.bool true)) :
    Calls Tryd.prog 42 #[.pointer (some ⟨t, 0, none⟩), .agg c.arr, .agg s.arr, .agg (EnArr e)] w (EnLe w t A nl cp k 9) := by
  obtain ⟨i, hi, hil⟩ := nat_of ht1 ht2
  obtain ⟨bt, tt, hbt, hbG, hbl, hto, hrow⟩ := hs.ten hil
  have hplw := hp bt hbt
  have hpl : tt.pl = true := by
    have h1 := (hrow w (Fr.refl _ _)).1
    rw [hi, Int.toNat_natCast, h1] at hplw
    injection hplw with hplw
    injection hplw
  have hhm := hto.pl hpl
  have hlow := hT.low
  have htl := hT.blk.lt
  have hcel := fun i (hi : i < c.nc) => hs.cell hi
  have hbtt : ∀ b, s.Bs = some ⟨b, 0, none⟩ → b ≠ t := fun b hb => by
    obtain ⟨b', cur, e1, -, e3, -⟩ := hs.cells
    rw [hb] at e1
    injection e1 with e1
    injection e1 with e1
    subst e1
    exact hT.ne e3 (by decide)
  have hnc1 := h.nc1
  have hnc2 := h.nc2
  have hnv1 := h.nv1
  have hnv2 := h.nv2
  have hle1 := h.le1
  have hle2 := h.le2
  have hms := hs.ms
  have hmt := hs.mt
  have hhm2 := hto.hm
  have hsb2 := hto.sb
  have htg2 := hto.tg
  obtain ⟨rg, nz, nc, nt, nv, le, bk, bz, bc, bv, cz, cc, ct, cv, At, Ar, nr, cr, Ao, no_, co, bl⟩ := c
  obtain ⟨tk, cn, Bt, mt, dt, Bs, ms, ds, pr, ev, lo, hi⟩ := s
  obtain ⟨kd, et, tn, cl, ot, ep, fm, un, n⟩ := e
  obtain ⟨pl, sh, hm, sb, nx, tg, tp, wc_, we, wv, wf, wu⟩ := tt
  simp only at *
  subst hms hmt hbt hi hpl
  have hix : (0 : Int) ≤ (i : Int) ∧ (i : Int) < (mt : Int) := by omega
  clear hs h hp hplw ht1 ht2
  obtain ⟨w1, hw1⟩ : ∃ w1, w1 = w.alloc (.cells #[.int .i64 (rg : Int), .slice (some ⟨bz, 0, none⟩) nz cz, .slice (some ⟨bc, 0, none⟩) ms cc, .slice At mt ct, .slice (some ⟨bv, 0, none⟩) nv cv, .slice Ar nr cr, .slice Ao no_ co, .int .i64 bl, .int .i64 (le : Int), .int .i64 (bk : Int)] TCf) := ⟨_, rfl⟩
  obtain ⟨g1, hg1⟩ : ∃ g1, g1 = w.heap.size := ⟨_, rfl⟩
  have hb1 : Blk w1 g1 TCf #[.int .i64 (rg : Int), .slice (some ⟨bz, 0, none⟩) nz cz, .slice (some ⟨bc, 0, none⟩) ms cc, .slice At mt ct, .slice (some ⟨bv, 0, none⟩) nv cv, .slice Ar nr cr, .slice Ao no_ co, .int .i64 bl, .int .i64 (le : Int), .int .i64 (bk : Int)] := by rw [hw1, hg1]; exact Blk.new _ _ _
  have f1 : Fr No w w1 := by rw [hw1]; exact fr_alloc _ _
  have hs1 : w1.heap.size = g1 + 1 := by rw [hw1, hg1]; simp
  obtain ⟨w2, hw2⟩ : ∃ w2, w2 = w1.alloc (.cells #[.int .i64 tk, .int .i64 cn, .slice (some ⟨bt, 0, none⟩) mt dt, .slice Bs ms ds, .int .i64 pr, .int .i64 ev, .int .i64 lo, .int .i64 hi] TSt) := ⟨_, rfl⟩
  obtain ⟨g2, hg2⟩ : ∃ g2, g2 = w1.heap.size := ⟨_, rfl⟩
  have hb2 : Blk w2 g2 TSt #[.int .i64 tk, .int .i64 cn, .slice (some ⟨bt, 0, none⟩) mt dt, .slice Bs ms ds, .int .i64 pr, .int .i64 ev, .int .i64 lo, .int .i64 hi] := by rw [hw2, hg2]; exact Blk.new _ _ _
  have f2 : Fr No w1 w2 := by rw [hw2]; exact fr_alloc _ _
  have hs2 : w2.heap.size = g2 + 1 := by rw [hw2, hg2]; simp
  obtain ⟨w3, hw3⟩ : ∃ w3, w3 = w2.alloc (.cells #[.int .i64 kd, .int .i64 et, .int .i64 (i : Int), .int .i64 cl, .int .i64 ot, .int .i64 ep, .int .i64 fm, .int .i64 un, .int .i64 n] TEm) := ⟨_, rfl⟩
  obtain ⟨g3, hg3⟩ : ∃ g3, g3 = w2.heap.size := ⟨_, rfl⟩
  have hb3 : Blk w3 g3 TEm #[.int .i64 kd, .int .i64 et, .int .i64 (i : Int), .int .i64 cl, .int .i64 ot, .int .i64 ep, .int .i64 fm, .int .i64 un, .int .i64 n] := by rw [hw3, hg3]; exact Blk.new _ _ _
  have f3 : Fr No w2 w3 := by rw [hw3]; exact fr_alloc _ _
  have hs3 : w3.heap.size = g3 + 1 := by rw [hw3, hg3]; simp
  obtain ⟨w4, hw4⟩ : ∃ w4, w4 = w3.alloc (.cells #[.int .i64 0, .int .i64 0, .int .i64 0, .int .i64 0, .int .i64 0, .int .i64 0, .int .i64 0, .int .i64 0, .int .i64 0] TEm) := ⟨_, rfl⟩
  obtain ⟨g4, hg4⟩ : ∃ g4, g4 = w3.heap.size := ⟨_, rfl⟩
  have hb4 : Blk w4 g4 TEm #[.int .i64 0, .int .i64 0, .int .i64 0, .int .i64 0, .int .i64 0, .int .i64 0, .int .i64 0, .int .i64 0, .int .i64 0] := by rw [hw4, hg4]; exact Blk.new _ _ _
  have f4 : Fr No w3 w4 := by rw [hw4]; exact fr_alloc _ _
  have hs4 : w4.heap.size = g4 + 1 := by rw [hw4, hg4]; simp
  have hB1 : Blk w4 g1 TCf #[.int .i64 (rg : Int), .slice (some ⟨bz, 0, none⟩) nz cz, .slice (some ⟨bc, 0, none⟩) ms cc, .slice At mt ct, .slice (some ⟨bv, 0, none⟩) nv cv, .slice Ar nr cr, .slice Ao no_ co, .int .i64 bl, .int .i64 (le : Int), .int .i64 (bk : Int)] := hb1.fr ((((Fr.refl No _).transNo f2).transNo f3).transNo f4) (fun h => h)
  have hB2 : Blk w4 g2 TSt #[.int .i64 tk, .int .i64 cn, .slice (some ⟨bt, 0, none⟩) mt dt, .slice Bs ms ds, .int .i64 pr, .int .i64 ev, .int .i64 lo, .int .i64 hi] := hb2.fr (((Fr.refl No _).transNo f3).transNo f4) (fun h => h)
  have hB3 : Blk w4 g3 TEm #[.int .i64 kd, .int .i64 et, .int .i64 (i : Int), .int .i64 cl, .int .i64 ot, .int .i64 ep, .int .i64 fm, .int .i64 un, .int .i64 n] := hb3.fr ((Fr.refl No _).transNo f4) (fun h => h)
  have hB4 : Blk w4 g4 TEm #[.int .i64 0, .int .i64 0, .int .i64 0, .int .i64 0, .int .i64 0, .int .i64 0, .int .i64 0, .int .i64 0, .int .i64 0] := hb4.fr (Fr.refl No _) (fun h => h)
  have fW : Fr No w w4 := ((((Fr.refl No w).transNo f1).transNo f2).transNo f3).transNo f4
  have he2 : g2 = g1 + 1 := by rw [hg2, hs1]
  have he3 : g3 = g1 + 2 := by rw [hg3, hs2]; rw [he2]
  have he4 : g4 = g1 + 3 := by rw [hg4, hs3]; rw [he3]
  have hka : ∀ V, Fr No w4 V → (V.cell? ⟨g1, 0, none⟩ = some (.int .i64 (rg : Int)) ∧ V.cell? ⟨g1, 1, none⟩ = some (.slice (some ⟨bz, 0, none⟩) nz cz) ∧ V.cell? ⟨g1, 2, none⟩ = some (.slice (some ⟨bc, 0, none⟩) ms cc) ∧ V.cell? ⟨g1, 3, none⟩ = some (.slice At mt ct) ∧ V.cell? ⟨g1, 4, none⟩ = some (.slice (some ⟨bv, 0, none⟩) nv cv) ∧ V.cell? ⟨g1, 5, none⟩ = some (.slice Ar nr cr) ∧ V.cell? ⟨g1, 6, none⟩ = some (.slice Ao no_ co) ∧ V.cell? ⟨g1, 7, none⟩ = some (.int .i64 bl) ∧ V.cell? ⟨g1, 8, none⟩ = some (.int .i64 (le : Int)) ∧ V.cell? ⟨g1, 9, none⟩ = some (.int .i64 (bk : Int))) ∧ (V.cell? ⟨g2, 0, none⟩ = some (.int .i64 tk) ∧ V.cell? ⟨g2, 1, none⟩ = some (.int .i64 cn) ∧ V.cell? ⟨g2, 2, none⟩ = some (.slice (some ⟨bt, 0, none⟩) mt dt) ∧ V.cell? ⟨g2, 3, none⟩ = some (.slice Bs ms ds) ∧ V.cell? ⟨g2, 4, none⟩ = some (.int .i64 pr) ∧ V.cell? ⟨g2, 5, none⟩ = some (.int .i64 ev) ∧ V.cell? ⟨g2, 6, none⟩ = some (.int .i64 lo) ∧ V.cell? ⟨g2, 7, none⟩ = some (.int .i64 hi)) ∧ (V.cell? ⟨g3, 0, none⟩ = some (.int .i64 kd) ∧ V.cell? ⟨g3, 1, none⟩ = some (.int .i64 et) ∧ V.cell? ⟨g3, 2, none⟩ = some (.int .i64 (i : Int)) ∧ V.cell? ⟨g3, 3, none⟩ = some (.int .i64 cl) ∧ V.cell? ⟨g3, 4, none⟩ = some (.int .i64 ot) ∧ V.cell? ⟨g3, 5, none⟩ = some (.int .i64 ep) ∧ V.cell? ⟨g3, 6, none⟩ = some (.int .i64 fm) ∧ V.cell? ⟨g3, 7, none⟩ = some (.int .i64 un) ∧ V.cell? ⟨g3, 8, none⟩ = some (.int .i64 n)) ∧ (V.cell? ⟨g4, 0, none⟩ = some (.int .i64 0) ∧ V.cell? ⟨g4, 1, none⟩ = some (.int .i64 0) ∧ V.cell? ⟨g4, 2, none⟩ = some (.int .i64 0) ∧ V.cell? ⟨g4, 3, none⟩ = some (.int .i64 0) ∧ V.cell? ⟨g4, 4, none⟩ = some (.int .i64 0) ∧ V.cell? ⟨g4, 5, none⟩ = some (.int .i64 0) ∧ V.cell? ⟨g4, 6, none⟩ = some (.int .i64 0) ∧ V.cell? ⟨g4, 7, none⟩ = some (.int .i64 0) ∧ V.cell? ⟨g4, 8, none⟩ = some (.int .i64 0)) := fun V hf => ⟨(let k := hB1.fr hf (fun h => h); ⟨k.cell 0, k.cell 1, k.cell 2, k.cell 3, k.cell 4, k.cell 5, k.cell 6, k.cell 7, k.cell 8, k.cell 9⟩), (let k := hB2.fr hf (fun h => h); ⟨k.cell 0, k.cell 1, k.cell 2, k.cell 3, k.cell 4, k.cell 5, k.cell 6, k.cell 7⟩), (let k := hB3.fr hf (fun h => h); ⟨k.cell 0, k.cell 1, k.cell 2, k.cell 3, k.cell 4, k.cell 5, k.cell 6, k.cell 7, k.cell 8⟩), (let k := hB4.fr hf (fun h => h); ⟨k.cell 0, k.cell 1, k.cell 2, k.cell 3, k.cell 4, k.cell 5, k.cell 6, k.cell 7, k.cell 8⟩)⟩
  have hW : w4 = (((w.alloc (.cells #[.int .i64 (rg : Int), .slice (some ⟨bz, 0, none⟩) nz cz, .slice (some ⟨bc, 0, none⟩) ms cc, .slice At mt ct, .slice (some ⟨bv, 0, none⟩) nv cv, .slice Ar nr cr, .slice Ao no_ co, .int .i64 bl, .int .i64 (le : Int), .int .i64 (bk : Int)] TCf)).alloc (.cells #[.int .i64 tk, .int .i64 cn, .slice (some ⟨bt, 0, none⟩) mt dt, .slice Bs ms ds, .int .i64 pr, .int .i64 ev, .int .i64 lo, .int .i64 hi] TSt)).alloc (.cells #[.int .i64 kd, .int .i64 et, .int .i64 (i : Int), .int .i64 cl, .int .i64 ot, .int .i64 ep, .int .i64 fm, .int .i64 un, .int .i64 n] TEm)).alloc (.cells #[.int .i64 0, .int .i64 0, .int .i64 0, .int .i64 0, .int .i64 0, .int .i64 0, .int .i64 0, .int .i64 0, .int .i64 0] TEm) := by rw [hw4, hw3, hw2, hw1]
  have hl1 : g1 < w4.heap.size := hB1.lt
  have hl2 : g2 < w4.heap.size := hB2.lt
  have hl3 : g3 < w4.heap.size := hB3.lt
  have hl4 : g4 < w4.heap.size := hB4.lt
  clear hw1 hb1 hs1 hw2 hb2 hs2 hw3 hb3 hs3 hw4 hb4 hs4
  have HG1 := Lib.hid hg1
  have HG2 := Lib.hid hg2
  have HG3 := Lib.hid hg3
  have HG4 := Lib.hid hg4
  have HE2 := Lib.hid he2
  have HE3 := Lib.hid he3
  have HE4 := Lib.hid he4
  clear hg1 hg2 hg3 hg4 he2 he3 he4
  have hg4 : w.heap.size ≤ g4 := by rw [HE4.out, HG1.out]; omega
  have hgE : w.heap.size ≤ g3 := by rw [HE3.out, HG1.out]; omega
  have hne4t : g4 ≠ t := by omega
  have hneE : g3 ≠ t := by omega
  have hn1 : ¬ (g1 = t ∨ g1 = g3) := by have := HE3.out; have := HG1.out; omega
  have hn2 : ¬ (g2 = t ∨ g2 = g3) := by have := HE3.out; have := HE2.out; have := HG1.out; omega
  have hn4 : ¬ (g4 = t ∨ g4 = g3) := by have := HE4.out; have := HE3.out; omega
  have hne4 : g4 ≠ g3 := by omega
  have hT4 := hT.frNo fW
  have hr4 := hrow w4 fW
  have HCEL := Lib.hid hcel
  have HBTT := Lib.hid hbtt
  have HKA := Lib.hid hka
  have HW := Lib.hid hW
  have HT4 := Lib.hid hT4
  have HTO := Lib.hid hto
  have HE := Lib.hid he
  clear hcel hbtt hka hW hT4 hto he
  go_enter Tryd.func42, Tryd.ntmps42
  go_upto_region 1 with fail
  rw [← HW.out]
  try rw [← show g4 = w.heap.size + 3 from by rw [HE4.out, HG1.out]]
  try rw [← show g3 = w.heap.size + 2 from by rw [HE3.out, HG1.out]]
  try rw [← show g2 = w.heap.size + 1 from by rw [HE2.out, HG1.out]]
  try rw [← HG1.out]
  obtain ⟨⟨e0, e1, e2, e3, e4, e5, e6, e7, e8, e9⟩, ⟨s0, s1, s2, s3, s4, s5, s6, s7⟩, ⟨x0, x1, x2, x3, x4, x5, x6, x7, x8⟩, ⟨y0, y1, y2, y3, y4, y5, y6, y7, y8⟩⟩ := HKA.out w4 (Fr.refl _ _)
  obtain ⟨r0, r1, r2, r3, r4, r5, r6, r7, r8, r9, r10, r11⟩ := hr4
  go_upto_region 2 with fail
  obtain ⟨w5, hw5⟩ : ∃ w5, w5 = w4.alloc (.cells #[.bool true, .bool sh, .int .i64 hm, .int .i64 sb, .int .i64 nx, .int .i64 tg, .int .i64 tp, .int .i64 wc_, .int .i64 we, .int .i64 wv, .int .i64 wf, .int .i64 wu] TTs) := ⟨_, rfl⟩
  obtain ⟨gt, hgt⟩ : ∃ gt, gt = w4.heap.size := ⟨_, rfl⟩
  have f5 : Fr No w4 w5 := by rw [hw5]; exact fr_alloc _ _
  have hbx : Blk w5 gt TTs #[.bool true, .bool sh, .int .i64 hm, .int .i64 sb, .int .i64 nx, .int .i64 tg, .int .i64 tp, .int .i64 wc_, .int .i64 we, .int .i64 wv, .int .i64 wf, .int .i64 wu] := by rw [hw5, hgt]; exact Blk.new _ _ _
  rw [← hw5, ← hgt]
  have hgt4 : w4.heap.size = gt := hgt.symm
  have hsW := fW.size
  have hnx : ¬ (gt = t ∨ gt = g3) := by omega
  have hC1 := hB1.fr f5 (fun h => h)
  have hC2 := hB2.fr f5 (fun h => h)
  have hC3 := hB3.fr f5 (fun h => h)
  have hC4 := hB4.fr f5 (fun h => h)
  have hka5 := fun V (hV : Fr (fun i => i = t ∨ i = g3) w5 V) => (⟨(let k := hC1.fr hV hn1; ⟨k.cell 0, k.cell 1, k.cell 2, k.cell 3, k.cell 4, k.cell 5, k.cell 6, k.cell 7, k.cell 8, k.cell 9⟩), (let k := hC2.fr hV hn2; ⟨k.cell 0, k.cell 1, k.cell 2, k.cell 3, k.cell 4, k.cell 5, k.cell 6, k.cell 7⟩), (let k := hbx.fr hV hnx; ⟨k.cell 0, k.cell 1, k.cell 2, k.cell 3, k.cell 4, k.cell 5, k.cell 6, k.cell 7, k.cell 8, k.cell 9, k.cell 10, k.cell 11⟩)⟩ : (V.cell? ⟨g1, 0, none⟩ = some (.int .i64 (rg : Int)) ∧ V.cell? ⟨g1, 1, none⟩ = some (.slice (some ⟨bz, 0, none⟩) nz cz) ∧ V.cell? ⟨g1, 2, none⟩ = some (.slice (some ⟨bc, 0, none⟩) ms cc) ∧ V.cell? ⟨g1, 3, none⟩ = some (.slice At mt ct) ∧ V.cell? ⟨g1, 4, none⟩ = some (.slice (some ⟨bv, 0, none⟩) nv cv) ∧ V.cell? ⟨g1, 5, none⟩ = some (.slice Ar nr cr) ∧ V.cell? ⟨g1, 6, none⟩ = some (.slice Ao no_ co) ∧ V.cell? ⟨g1, 7, none⟩ = some (.int .i64 bl) ∧ V.cell? ⟨g1, 8, none⟩ = some (.int .i64 (le : Int)) ∧ V.cell? ⟨g1, 9, none⟩ = some (.int .i64 (bk : Int))) ∧ (V.cell? ⟨g2, 0, none⟩ = some (.int .i64 tk) ∧ V.cell? ⟨g2, 1, none⟩ = some (.int .i64 cn) ∧ V.cell? ⟨g2, 2, none⟩ = some (.slice (some ⟨bt, 0, none⟩) mt dt) ∧ V.cell? ⟨g2, 3, none⟩ = some (.slice Bs ms ds) ∧ V.cell? ⟨g2, 4, none⟩ = some (.int .i64 pr) ∧ V.cell? ⟨g2, 5, none⟩ = some (.int .i64 ev) ∧ V.cell? ⟨g2, 6, none⟩ = some (.int .i64 lo) ∧ V.cell? ⟨g2, 7, none⟩ = some (.int .i64 hi)) ∧ (V.cell? ⟨gt, 0, none⟩ = some (.bool true) ∧ V.cell? ⟨gt, 1, none⟩ = some (.bool sh) ∧ V.cell? ⟨gt, 2, none⟩ = some (.int .i64 hm) ∧ V.cell? ⟨gt, 3, none⟩ = some (.int .i64 sb) ∧ V.cell? ⟨gt, 4, none⟩ = some (.int .i64 nx) ∧ V.cell? ⟨gt, 5, none⟩ = some (.int .i64 tg) ∧ V.cell? ⟨gt, 6, none⟩ = some (.int .i64 tp) ∧ V.cell? ⟨gt, 7, none⟩ = some (.int .i64 wc_) ∧ V.cell? ⟨gt, 8, none⟩ = some (.int .i64 we) ∧ V.cell? ⟨gt, 9, none⟩ = some (.int .i64 wv) ∧ V.cell? ⟨gt, 10, none⟩ = some (.int .i64 wf) ∧ V.cell? ⟨gt, 11, none⟩ = some (.int .i64 wu)))
  have h4 := fun V (hV : Fr (fun i => i = t ∨ i = g3) w5 V) => (hC4.fr hV hn4 : Blk V g4 TEm (EnArr (⟨0, 0, 0, 0, 0, 0, 0, 0, 0⟩ : En)))
  have hbase : Fr (fun i => i = t) w w5 := (fW.transNo f5).mono (fun _ h => h.elim)
  have hw05 := fW.transNo f5
  have hcl : ∀ i, i < ms → ∃ (b : Nat) (m : Int) (r a : Nat) (e : Int), Bs = some ⟨b, 0, none⟩ ∧ b < w.heap.size ∧ r < nv ∧ a < nv ∧ ∀ V, Fr (fun i => i = t ∨ i = g3) w5 V → V.cell? ⟨b, i * 4, none⟩ = some (.int .i64 m) ∧ V.cell? ⟨b, i * 4 + 1, none⟩ = some (.int .i64 (r : Int)) ∧ V.cell? ⟨b, i * 4 + 2, none⟩ = some (.int .i64 (a : Int)) ∧ V.cell? ⟨b, i * 4 + 3, none⟩ = some (.int .i64 e) := fun i hi => by
    obtain ⟨b, m, r, a, e, h1, -, hbl, hr, ha, hc⟩ := HCEL.out i hi
    have hbt := HBTT.out b h1
    refine ⟨b, m, r, a, e, h1, hbl, hr, ha, fun V hV => ?_⟩
    obtain ⟨c0, c1, c2, c3⟩ := hc w5 hw05
    have hb5 : b < w5.heap.size := Nat.lt_of_lt_of_le hbl hw05.size
    have hn : ¬ (b = t ∨ b = g3) := by omega
    exact ⟨(hV.cell (p := ⟨b, i * 4, none⟩) hb5 hn).trans c0, (hV.cell (p := ⟨b, i * 4 + 1, none⟩) hb5 hn).trans c1, (hV.cell (p := ⟨b, i * 4 + 2, none⟩) hb5 hn).trans c2, (hV.cell (p := ⟨b, i * 4 + 3, none⟩) hb5 hn).trans c3⟩
  have gr0 : GrS w5 t g3 A nl cp (fun e => 0 ≤ e.cell ∧ e.cell < (ms : Int)) (w5.setCell ⟨g3, 3, none⟩ (.int .i64 hm)) k ⟨kd, et, (i : Int), hm, ot, ep, fm, un, n⟩ := ⟨Blk.cv (hC3.set_ 3 _) rfl, ⟨HE.out.f0, HE.out.f1, HE.out.f2, (okI_of (m := 17) (by (try dsimp only); omega) (by (try dsimp only); omega) (by decide)), HE.out.f4, HE.out.f5, HE.out.f6, HE.out.f7, HE.out.f8⟩, ⟨hhm, hhm2.2⟩, (HT4.out.frNo f5).set hlow hgE hneE, (Fr.refl _ _).setCell (p := ⟨g3, 3, none⟩) (.inl (.inr rfl)) _⟩
  have m3 : w5.cell? ⟨g3, 3, none⟩ = some (.int .i64 cl) := hC3.cell 3
  have mf := hC3.frozen 3
  have hl35 := hC3.lt
  have gtl := hbx.lt
  obtain ⟨y2r⟩ : Nonempty (w5.cell? ⟨gt, 2, none⟩ = some (.int .i64 hm)) := ⟨hbx.cell 2⟩
  clear hw5 hgt hgt4
  go_upto_region 3 with fail
  generalize w5.setCell ⟨g3, 3, none⟩ (.int .i64 hm) = w6 at *
  have GR := Lib.hid gr0
  clear gr0 m3 mf y2r hbx f5 HKA hrow hT e0 e1 e2 e3 e4 e5 e6 e7 e8 e9 s0 s1 s2 s3 s4 s5 s6 s7 x0 x1 x2 x3 x4 x5 x6 x7 x8 y0 y1 y2 y3 y4 y5 y6 y7 y8 r0 r1 r2 r3 r4 r5 r6 r7 r8 r9 r10 r11
  have HKA := Lib.hid hka5
  have H4 := Lib.hid h4
  have HCL := Lib.hid hcl
  clear hka5 h4 hcl hl35 gtl
  have hP : ∃ e' k', GrS w5 t g3 A nl cp (fun e => 0 ≤ e.cell ∧ e.cell < (ms : Int)) w6 k' e' ∧ k ≤ k' ∧ k' ≤ k + 0 := ⟨_, _, GR.out, by omega, by omega⟩
  obtain ⟨⟨kd, et, tn, cl, ot, ep, fm, un, n⟩, kk, gr, ka, kb⟩ := hP
  replace GR := Lib.hid gr
  clear gr
  obtain ⟨⟨e0, e1, e2, e3, e4, e5, e6, e7, e8, e9⟩, ⟨s0, s1, s2, s3, s4, s5, s6, s7⟩, ⟨r0, r1, r2, r3, r4, r5, r6, r7, r8, r9, r10, r11⟩⟩ := HKA.out _ GR.out.fr
  obtain ⟨m0, m1, m2, m3, m4, m5, m6, m7, m8⟩ := en_cells GR.out.eb
  simp only at m0 m1 m2 m3 m4 m5 m6 m7 m8
  have mf := GR.out.eb.frozen
  go_cut [25] from 19 to 25 (fun x wx => (∃ B : Bool, x = .bool B ∧ (B = true → 0 ≤ tg)) ∧ (∃ e' k', GrS w5 t g3 A nl cp (fun e => 0 ≤ e.cell ∧ e.cell < (ms : Int)) wx k' e' ∧ k ≤ k' ∧ k' ≤ k + 1))
  case first =>
    by_cases h : 0 ≤ tg
    · have b4 : decide (0 ≤ tg) = true := decide_eq_true h
      go_wp2_with fail
      refine (yes_any GR.out.tp (by omega) _ (by decide) (by decide)).mono ?_
      rintro r v ⟨B, rfl, k2, j1, j2, hT, hF⟩
      replace GR := Lib.hid (GR.out.tape hT hF hneE)
      clear hT hF
      clear e0 e1 e2 e3 e4 e5 e6 e7 e8 e9 s0 s1 s2 s3 s4 s5 s6 s7 r0 r1 r2 r3 r4 r5 r6 r7 r8 r9 r10 r11 m0 m1 m2 m3 m4 m5 m6 m7 m8 mf
      obtain ⟨⟨e0, e1, e2, e3, e4, e5, e6, e7, e8, e9⟩, ⟨s0, s1, s2, s3, s4, s5, s6, s7⟩, ⟨r0, r1, r2, r3, r4, r5, r6, r7, r8, r9, r10, r11⟩⟩ := HKA.out _ GR.out.fr
      obtain ⟨m0, m1, m2, m3, m4, m5, m6, m7, m8⟩ := en_cells GR.out.eb
      simp only at m0 m1 m2 m3 m4 m5 m6 m7 m8
      have mf := GR.out.eb.frozen
      go_wp2_with fail
      go_meet
      exact ⟨⟨_, rfl, fun _ => h⟩, ⟨_, k2, GR.out, by omega, by omega⟩⟩
    · have b4 : decide (0 ≤ tg) = false := decide_eq_false h
      go_wp2_with fail
      go_meet
      exact ⟨⟨_, rfl, fun h => by cases h⟩, ⟨_, kk, GR.out, by omega, by omega⟩⟩
  obtain ⟨⟨B, rfl, hB⟩, hP⟩ := hcut
  clear e0 e1 e2 e3 e4 e5 e6 e7 e8 e9 s0 s1 s2 s3 s4 s5 s6 s7 r0 r1 r2 r3 r4 r5 r6 r7 r8 r9 r10 r11 m0 m1 m2 m3 m4 m5 m6 m7 m8 mf
  obtain ⟨⟨kd, et, tn, cl, ot, ep, fm, un, n⟩, kk, gr, ka, kb⟩ := hP
  replace GR := Lib.hid gr
  clear gr
  obtain ⟨⟨e0, e1, e2, e3, e4, e5, e6, e7, e8, e9⟩, ⟨s0, s1, s2, s3, s4, s5, s6, s7⟩, ⟨r0, r1, r2, r3, r4, r5, r6, r7, r8, r9, r10, r11⟩⟩ := HKA.out _ GR.out.fr
  obtain ⟨m0, m1, m2, m3, m4, m5, m6, m7, m8⟩ := en_cells GR.out.eb
  simp only at m0 m1 m2 m3 m4 m5 m6 m7 m8
  have mf := GR.out.eb.frozen
  go_upto_if 25 with fail
  go_cut [] from 26 to 42 (fun wx => (∃ e' k', GrS w5 t g3 A nl cp (fun e => 0 ≤ e.cell ∧ e.cell < (ms : Int)) wx k' e' ∧ k ≤ k' ∧ k' ≤ k + 2))
  case first =>
    rcases B with _ | _
    · go_upto_region 5 with fail
      go_cut [39] from 29 to 39 (fun x wx => (∃ B : Bool, x = .bool B ∧ (B = true → 0 ≤ sb)) ∧ (∃ e' k', GrS w5 t g3 A nl cp (fun e => 0 ≤ e.cell ∧ e.cell < (ms : Int)) wx k' e' ∧ k ≤ k' ∧ k' ≤ k + 2))
      case first =>
        by_cases h : 0 ≤ sb
        · have b4 : decide (0 ≤ sb) = true := decide_eq_true h
          go_wp2_with fail
          refine (yes_any GR.out.tp (by omega) _ (by decide) (by decide)).mono ?_
          rintro r v ⟨B, rfl, k2, j1, j2, hT, hF⟩
          replace GR := Lib.hid (GR.out.tape hT hF hneE)
          clear hT hF
          clear e0 e1 e2 e3 e4 e5 e6 e7 e8 e9 s0 s1 s2 s3 s4 s5 s6 s7 r0 r1 r2 r3 r4 r5 r6 r7 r8 r9 r10 r11 m0 m1 m2 m3 m4 m5 m6 m7 m8 mf
          obtain ⟨⟨e0, e1, e2, e3, e4, e5, e6, e7, e8, e9⟩, ⟨s0, s1, s2, s3, s4, s5, s6, s7⟩, ⟨r0, r1, r2, r3, r4, r5, r6, r7, r8, r9, r10, r11⟩⟩ := HKA.out _ GR.out.fr
          obtain ⟨m0, m1, m2, m3, m4, m5, m6, m7, m8⟩ := en_cells GR.out.eb
          simp only at m0 m1 m2 m3 m4 m5 m6 m7 m8
          have mf := GR.out.eb.frozen
          rcases B with _ | _
          · rcases sh with _ | _
            · go_wp2_with fail
              go_meet
              exact ⟨⟨_, rfl, fun _ => h⟩, ⟨_, k2, GR.out, by omega, by omega⟩⟩
            · go_wp2_with fail
              go_meet
              exact ⟨⟨_, rfl, fun _ => h⟩, ⟨_, k2, GR.out, by omega, by omega⟩⟩
          · go_wp2_with fail
            go_meet
            exact ⟨⟨_, rfl, fun _ => h⟩, ⟨_, k2, GR.out, by omega, by omega⟩⟩
        · have b4 : decide (0 ≤ sb) = false := decide_eq_false h
          go_wp2_with fail
          go_meet
          exact ⟨⟨_, rfl, fun h => by cases h⟩, ⟨_, kk, GR.out, by omega, by omega⟩⟩
      obtain ⟨⟨B, rfl, hB⟩, hP⟩ := hcut
      clear e0 e1 e2 e3 e4 e5 e6 e7 e8 e9 s0 s1 s2 s3 s4 s5 s6 s7 r0 r1 r2 r3 r4 r5 r6 r7 r8 r9 r10 r11 m0 m1 m2 m3 m4 m5 m6 m7 m8 mf
      obtain ⟨⟨kd, et, tn, cl, ot, ep, fm, un, n⟩, kk, gr, ka, kb⟩ := hP
      replace GR := Lib.hid gr
      clear gr
      obtain ⟨⟨e0, e1, e2, e3, e4, e5, e6, e7, e8, e9⟩, ⟨s0, s1, s2, s3, s4, s5, s6, s7⟩, ⟨r0, r1, r2, r3, r4, r5, r6, r7, r8, r9, r10, r11⟩⟩ := HKA.out _ GR.out.fr
      obtain ⟨m0, m1, m2, m3, m4, m5, m6, m7, m8⟩ := en_cells GR.out.eb
      simp only at m0 m1 m2 m3 m4 m5 m6 m7 m8
      have mf := GR.out.eb.frozen
      rcases B with _ | _
      · go_wp2_with fail
        go_meet
        exact ⟨_, kk, GR.out, by omega, by omega⟩
      · have hsb := hB rfl
        go_wp2_with fail
        go_meet
        exact ⟨_, kk, GrS.put3 GR.out hlow hgE hneE _ (okI_of (m := 17) (by (try dsimp only); omega) (by (try dsimp only); omega) (by decide)) ⟨by (try dsimp only); omega, by (try dsimp only); omega⟩, by omega, by omega⟩
    · have htg := hB rfl
      go_wp2_with fail
      go_meet
      exact ⟨_, kk, GrS.put3 GR.out hlow hgE hneE _ (okI_of (m := 17) (by (try dsimp only); omega) (by (try dsimp only); omega) (by decide)) ⟨by (try dsimp only); omega, by (try dsimp only); omega⟩, by omega, by omega⟩
  have hP := hcut
  clear hcut
  clear e0 e1 e2 e3 e4 e5 e6 e7 e8 e9 s0 s1 s2 s3 s4 s5 s6 s7 r0 r1 r2 r3 r4 r5 r6 r7 r8 r9 r10 r11 m0 m1 m2 m3 m4 m5 m6 m7 m8 mf
  obtain ⟨⟨kd, et, tn, cl, ot, ep, fm, un, n⟩, kk, gr, ka, kb⟩ := hP
  replace GR := Lib.hid gr
  clear gr
  obtain ⟨⟨e0, e1, e2, e3, e4, e5, e6, e7, e8, e9⟩, ⟨s0, s1, s2, s3, s4, s5, s6, s7⟩, ⟨r0, r1, r2, r3, r4, r5, r6, r7, r8, r9, r10, r11⟩⟩ := HKA.out _ GR.out.fr
  obtain ⟨m0, m1, m2, m3, m4, m5, m6, m7, m8⟩ := en_cells GR.out.eb
  simp only at m0 m1 m2 m3 m4 m5 m6 m7 m8
  have mf := GR.out.eb.frozen
  go_upto_region 7 with fail
  go_cut [] from 43 to 45 (fun wx => (∃ e' k', GrS w5 t g3 A nl cp (fun e => 0 ≤ e.cell ∧ e.cell < (ms : Int)) wx k' e' ∧ k ≤ k' ∧ k' ≤ k + 2))
  case first =>
    go_wp2_with fail
    go_meet
    exact ⟨_, kk, GrS.put5 GR.out hlow hgE hneE _ HTO.out.nu.1 GR.out.q, by omega, by omega⟩
  have hP := hcut
  clear hcut
  clear e0 e1 e2 e3 e4 e5 e6 e7 e8 e9 s0 s1 s2 s3 s4 s5 s6 s7 r0 r1 r2 r3 r4 r5 r6 r7 r8 r9 r10 r11 m0 m1 m2 m3 m4 m5 m6 m7 m8 mf
  obtain ⟨⟨kd, et, tn, cl, ot, ep, fm, un, n⟩, kk, gr, ka, kb⟩ := hP
  replace GR := Lib.hid gr
  clear gr
  obtain ⟨⟨e0, e1, e2, e3, e4, e5, e6, e7, e8, e9⟩, ⟨s0, s1, s2, s3, s4, s5, s6, s7⟩, ⟨r0, r1, r2, r3, r4, r5, r6, r7, r8, r9, r10, r11⟩⟩ := HKA.out _ GR.out.fr
  obtain ⟨m0, m1, m2, m3, m4, m5, m6, m7, m8⟩ := en_cells GR.out.eb
  simp only at m0 m1 m2 m3 m4 m5 m6 m7 m8
  have mf := GR.out.eb.frozen
  go_upto_region 8 with fail
  go_cut [59] from 46 to 59 (fun x wx => (∃ B : Bool, x = .bool B ∧ (True)) ∧ (∃ e' k', GrS w5 t g3 A nl cp (fun e => 0 ≤ e.cell ∧ e.cell < (ms : Int)) wx k' e' ∧ k ≤ k' ∧ k' ≤ k + 3))
  case first =>
    obtain ⟨q0, hq0⟩ : ∃ q : Bool, (cl != hm) = q := ⟨_, rfl⟩
    obtain ⟨q1, hq1⟩ : ∃ q : Bool, (tp == 0) = q := ⟨_, rfl⟩
    all_goals rcases q0 with _ | _
    all_goals rcases q1 with _ | _
    all_goals first
      | (go_wp2_with fail
         go_meet
         exact ⟨⟨_, rfl, trivial⟩, ⟨_, kk, GR.out, by omega, by omega⟩⟩)
      | (go_wp2_with fail
         refine (yes_any GR.out.tp (by omega) _ (by decide) (by decide)).mono ?_
         rintro r v ⟨B, rfl, k2, j1, j2, hT, hF⟩
         replace GR := Lib.hid (GR.out.tape hT hF hneE)
         clear hT hF
         clear e0 e1 e2 e3 e4 e5 e6 e7 e8 e9 s0 s1 s2 s3 s4 s5 s6 s7 r0 r1 r2 r3 r4 r5 r6 r7 r8 r9 r10 r11 m0 m1 m2 m3 m4 m5 m6 m7 m8 mf
         obtain ⟨⟨e0, e1, e2, e3, e4, e5, e6, e7, e8, e9⟩, ⟨s0, s1, s2, s3, s4, s5, s6, s7⟩, ⟨r0, r1, r2, r3, r4, r5, r6, r7, r8, r9, r10, r11⟩⟩ := HKA.out _ GR.out.fr
         obtain ⟨m0, m1, m2, m3, m4, m5, m6, m7, m8⟩ := en_cells GR.out.eb
         simp only at m0 m1 m2 m3 m4 m5 m6 m7 m8
         have mf := GR.out.eb.frozen
         go_wp2_with fail
         go_meet
         exact ⟨⟨_, rfl, trivial⟩, ⟨_, k2, GR.out, by omega, by omega⟩⟩)
  obtain ⟨⟨B, rfl, hB⟩, hP⟩ := hcut
  clear e0 e1 e2 e3 e4 e5 e6 e7 e8 e9 s0 s1 s2 s3 s4 s5 s6 s7 r0 r1 r2 r3 r4 r5 r6 r7 r8 r9 r10 r11 m0 m1 m2 m3 m4 m5 m6 m7 m8 mf
  obtain ⟨⟨kd, et, tn, cl, ot, ep, fm, un, n⟩, kk, gr, ka, kb⟩ := hP
  replace GR := Lib.hid gr
  clear gr
  obtain ⟨⟨e0, e1, e2, e3, e4, e5, e6, e7, e8, e9⟩, ⟨s0, s1, s2, s3, s4, s5, s6, s7⟩, ⟨r0, r1, r2, r3, r4, r5, r6, r7, r8, r9, r10, r11⟩⟩ := HKA.out _ GR.out.fr
  obtain ⟨m0, m1, m2, m3, m4, m5, m6, m7, m8⟩ := en_cells GR.out.eb
  simp only at m0 m1 m2 m3 m4 m5 m6 m7 m8
  have mf := GR.out.eb.frozen
  go_upto_if 59 with fail
  go_cut [] from 60 to 63 (fun wx => (∃ e' k', GrS w5 t g3 A nl cp (fun e => 0 ≤ e.cell ∧ e.cell < (ms : Int)) wx k' e' ∧ k ≤ k' ∧ k' ≤ k + 3))
  case first =>
    rcases B with _ | _
    · go_wp2_with fail
      go_meet
      exact ⟨_, kk, GR.out, by omega, by omega⟩
    · go_wp2_with fail
      go_meet
      exact ⟨_, kk, GrS.put5 GR.out hlow hgE hneE _ (ok64 _) GR.out.q, by omega, by omega⟩
  have hP := hcut
  clear hcut
  clear e0 e1 e2 e3 e4 e5 e6 e7 e8 e9 s0 s1 s2 s3 s4 s5 s6 s7 r0 r1 r2 r3 r4 r5 r6 r7 r8 r9 r10 r11 m0 m1 m2 m3 m4 m5 m6 m7 m8 mf
  obtain ⟨⟨kd, et, tn, cl, ot, ep, fm, un, n⟩, kk, gr, ka, kb⟩ := hP
  replace GR := Lib.hid gr
  clear gr
  obtain ⟨⟨e0, e1, e2, e3, e4, e5, e6, e7, e8, e9⟩, ⟨s0, s1, s2, s3, s4, s5, s6, s7⟩, ⟨r0, r1, r2, r3, r4, r5, r6, r7, r8, r9, r10, r11⟩⟩ := HKA.out _ GR.out.fr
  obtain ⟨m0, m1, m2, m3, m4, m5, m6, m7, m8⟩ := en_cells GR.out.eb
  simp only at m0 m1 m2 m3 m4 m5 m6 m7 m8
  have mf := GR.out.eb.frozen
  go_upto_region 10 with fail
  go_cut [73] from 64 to 73 (fun x wx => (∃ B : Bool, x = .bool B ∧ (True)) ∧ (∃ e' k', GrS w5 t g3 A nl cp (fun e => 0 ≤ e.cell ∧ e.cell < (ms : Int)) wx k' e' ∧ k ≤ k' ∧ k' ≤ k + 4))
  case first =>
    obtain ⟨q0, hq0⟩ : ∃ q : Bool, (cl != hm) = q := ⟨_, rfl⟩
    all_goals rcases q0 with _ | _
    · go_wp2_with fail
      go_meet
      exact ⟨⟨_, rfl, trivial⟩, ⟨_, kk, GR.out, by omega, by omega⟩⟩
    · go_wp2_with fail
      refine (next_q GR.out.tp (by omega) _ (by decide) (by decide)).mono ?_
      rintro r v ⟨z, rfl, z1, z2, k2, j1, j2, hT, hF⟩
      replace GR := Lib.hid (GR.out.tape hT hF hneE)
      clear hT hF
      clear e0 e1 e2 e3 e4 e5 e6 e7 e8 e9 s0 s1 s2 s3 s4 s5 s6 s7 r0 r1 r2 r3 r4 r5 r6 r7 r8 r9 r10 r11 m0 m1 m2 m3 m4 m5 m6 m7 m8 mf
      obtain ⟨⟨e0, e1, e2, e3, e4, e5, e6, e7, e8, e9⟩, ⟨s0, s1, s2, s3, s4, s5, s6, s7⟩, ⟨r0, r1, r2, r3, r4, r5, r6, r7, r8, r9, r10, r11⟩⟩ := HKA.out _ GR.out.fr
      obtain ⟨m0, m1, m2, m3, m4, m5, m6, m7, m8⟩ := en_cells GR.out.eb
      simp only at m0 m1 m2 m3 m4 m5 m6 m7 m8
      have mf := GR.out.eb.frozen
      go_wp2_with fail
      go_meet
      exact ⟨⟨_, rfl, trivial⟩, ⟨_, k2, GR.out, by omega, by omega⟩⟩
  obtain ⟨⟨B, rfl, hB⟩, hP⟩ := hcut
  clear e0 e1 e2 e3 e4 e5 e6 e7 e8 e9 s0 s1 s2 s3 s4 s5 s6 s7 r0 r1 r2 r3 r4 r5 r6 r7 r8 r9 r10 r11 m0 m1 m2 m3 m4 m5 m6 m7 m8 mf
  obtain ⟨⟨kd, et, tn, cl, ot, ep, fm, un, n⟩, kk, gr, ka, kb⟩ := hP
  replace GR := Lib.hid gr
  clear gr
  obtain ⟨⟨e0, e1, e2, e3, e4, e5, e6, e7, e8, e9⟩, ⟨s0, s1, s2, s3, s4, s5, s6, s7⟩, ⟨r0, r1, r2, r3, r4, r5, r6, r7, r8, r9, r10, r11⟩⟩ := HKA.out _ GR.out.fr
  obtain ⟨m0, m1, m2, m3, m4, m5, m6, m7, m8⟩ := en_cells GR.out.eb
  simp only at m0 m1 m2 m3 m4 m5 m6 m7 m8
  have mf := GR.out.eb.frozen
  go_upto_if 73 with fail
  go_cut [] from 74 to 80 (fun wx => (∃ e' k', GrS w5 t g3 A nl cp (fun e => 0 ≤ e.cell ∧ e.cell < (ms : Int)) wx k' e' ∧ k ≤ k' ∧ k' ≤ k + 4))
  case first =>
    rcases B with _ | _
    · go_wp2_with fail
      go_meet
      exact ⟨_, kk, GR.out, by omega, by omega⟩
    · go_wp2_with fail
      all_goals go_meet
      all_goals exact ⟨_, kk, GrS.put1 GR.out hlow hgE hneE _ (by first | exact GR.out.ok.f1 | exact HTO.out.nu.2 | exact okI_max GR.out.ok.f1 HTO.out.nu.2) GR.out.q, by omega, by omega⟩
  have hP := hcut
  clear hcut
  clear e0 e1 e2 e3 e4 e5 e6 e7 e8 e9 s0 s1 s2 s3 s4 s5 s6 s7 r0 r1 r2 r3 r4 r5 r6 r7 r8 r9 r10 r11 m0 m1 m2 m3 m4 m5 m6 m7 m8 mf
  obtain ⟨⟨kd, et, tn, cl, ot, ep, fm, un, n⟩, kk, gr, ka, kb⟩ := hP
  replace GR := Lib.hid gr
  clear gr
  obtain ⟨⟨e0, e1, e2, e3, e4, e5, e6, e7, e8, e9⟩, ⟨s0, s1, s2, s3, s4, s5, s6, s7⟩, ⟨r0, r1, r2, r3, r4, r5, r6, r7, r8, r9, r10, r11⟩⟩ := HKA.out _ GR.out.fr
  obtain ⟨m0, m1, m2, m3, m4, m5, m6, m7, m8⟩ := en_cells GR.out.eb
  simp only at m0 m1 m2 m3 m4 m5 m6 m7 m8
  have mf := GR.out.eb.frozen
  go_upto_region 12 with fail
  go_cut [] from 81 to 87 (fun wx => (∃ e' k', GrS w5 t g3 A nl cp (fun e => 0 ≤ e.cell ∧ e.cell < (ms : Int)) wx k' e' ∧ k ≤ k' ∧ k' ≤ k + 4))
  case first =>
    go_wp2_with fail
    all_goals go_meet
    all_goals exact ⟨_, kk, GrS.put6 GR.out hlow hgE hneE _ (by first | exact GR.out.ok.f1 | exact HTO.out.nu.2 | exact okI_max GR.out.ok.f1 HTO.out.nu.2) GR.out.q, by omega, by omega⟩
  have hP := hcut
  clear hcut
  clear e0 e1 e2 e3 e4 e5 e6 e7 e8 e9 s0 s1 s2 s3 s4 s5 s6 s7 r0 r1 r2 r3 r4 r5 r6 r7 r8 r9 r10 r11 m0 m1 m2 m3 m4 m5 m6 m7 m8 mf
  obtain ⟨⟨kd, et, tn, cl, ot, ep, fm, un, n⟩, kk, gr, ka, kb⟩ := hP
  replace GR := Lib.hid gr
  clear gr
  obtain ⟨⟨e0, e1, e2, e3, e4, e5, e6, e7, e8, e9⟩, ⟨s0, s1, s2, s3, s4, s5, s6, s7⟩, ⟨r0, r1, r2, r3, r4, r5, r6, r7, r8, r9, r10, r11⟩⟩ := HKA.out _ GR.out.fr
  obtain ⟨m0, m1, m2, m3, m4, m5, m6, m7, m8⟩ := en_cells GR.out.eb
  simp only at m0 m1 m2 m3 m4 m5 m6 m7 m8
  have mf := GR.out.eb.frozen
  go_upto_region 13 with fail
  go_cut [89] from 88 to 89 (fun x wx => (∃ B : Bool, x = .bool B ∧ (True)) ∧ (∃ e' k', GrS w5 t g3 A nl cp (fun e => 0 ≤ e.cell ∧ e.cell < (ms : Int)) wx k' e' ∧ k ≤ k' ∧ k' ≤ k + 5))
  case first =>
    go_wp2_with fail
    refine (yes_any GR.out.tp (by omega) _ (by decide) (by decide)).mono ?_
    rintro r v ⟨B, rfl, k2, j1, j2, hT, hF⟩
    replace GR := Lib.hid (GR.out.tape hT hF hneE)
    clear hT hF
    clear e0 e1 e2 e3 e4 e5 e6 e7 e8 e9 s0 s1 s2 s3 s4 s5 s6 s7 r0 r1 r2 r3 r4 r5 r6 r7 r8 r9 r10 r11 m0 m1 m2 m3 m4 m5 m6 m7 m8 mf
    obtain ⟨⟨e0, e1, e2, e3, e4, e5, e6, e7, e8, e9⟩, ⟨s0, s1, s2, s3, s4, s5, s6, s7⟩, ⟨r0, r1, r2, r3, r4, r5, r6, r7, r8, r9, r10, r11⟩⟩ := HKA.out _ GR.out.fr
    obtain ⟨m0, m1, m2, m3, m4, m5, m6, m7, m8⟩ := en_cells GR.out.eb
    simp only at m0 m1 m2 m3 m4 m5 m6 m7 m8
    have mf := GR.out.eb.frozen
    go_wp2_with fail
    go_meet
    exact ⟨⟨_, rfl, trivial⟩, ⟨_, k2, GR.out, by omega, by omega⟩⟩
  obtain ⟨⟨B, rfl, hB⟩, hP⟩ := hcut
  clear e0 e1 e2 e3 e4 e5 e6 e7 e8 e9 s0 s1 s2 s3 s4 s5 s6 s7 r0 r1 r2 r3 r4 r5 r6 r7 r8 r9 r10 r11 m0 m1 m2 m3 m4 m5 m6 m7 m8 mf
  obtain ⟨⟨kd, et, tn, cl, ot, ep, fm, un, n⟩, kk, gr, ka, kb⟩ := hP
  replace GR := Lib.hid gr
  clear gr
  obtain ⟨⟨e0, e1, e2, e3, e4, e5, e6, e7, e8, e9⟩, ⟨s0, s1, s2, s3, s4, s5, s6, s7⟩, ⟨r0, r1, r2, r3, r4, r5, r6, r7, r8, r9, r10, r11⟩⟩ := HKA.out _ GR.out.fr
  obtain ⟨m0, m1, m2, m3, m4, m5, m6, m7, m8⟩ := en_cells GR.out.eb
  simp only at m0 m1 m2 m3 m4 m5 m6 m7 m8
  have mf := GR.out.eb.frozen
  go_upto_if 89 with fail
  go_cut [] from 90 to 95 (fun wx => (∃ e' k', GrS w5 t g3 A nl cp (fun e => 0 ≤ e.cell ∧ e.cell < (ms : Int)) wx k' e' ∧ k ≤ k' ∧ k' ≤ k + 6))
  case first =>
    rcases B with _ | _
    · go_wp2_with fail
      go_meet
      exact ⟨_, kk, GR.out, by omega, by omega⟩
    · go_upto_region 14 with fail
      go_region_law (first
        | (go_simp; go_at_call 34; refine (next_q (GR.out.tp.frNo (Fr.refl No _).drew) (by omega) _ (by decide) (by decide)).mono ?_; rintro r v ⟨z, rfl, z1, z2, k2, j1, j2, hT, hF⟩; replace GR := Lib.hid ((GR.out.frNo (Fr.refl No _).drew).tape hT hF hneE); clear hT hF; clear e0 e1 e2 e3 e4 e5 e6 e7 e8 e9 s0 s1 s2 s3 s4 s5 s6 s7 r0 r1 r2 r3 r4 r5 r6 r7 r8 r9 r10 r11 m0 m1 m2 m3 m4 m5 m6 m7 m8 mf; obtain ⟨⟨e0, e1, e2, e3, e4, e5, e6, e7, e8, e9⟩, ⟨s0, s1, s2, s3, s4, s5, s6, s7⟩, ⟨r0, r1, r2, r3, r4, r5, r6, r7, r8, r9, r10, r11⟩⟩ := HKA.out _ GR.out.fr; obtain ⟨m0, m1, m2, m3, m4, m5, m6, m7, m8⟩ := en_cells GR.out.eb; simp only at m0 m1 m2 m3 m4 m5 m6 m7 m8; have mf := GR.out.eb.frozen; skip))
      all_goals go_wp2_with fail
      all_goals go_meet
      all_goals exact ⟨_, k2, GrS.put6 GR.out hlow hgE hneE _ (okw _) GR.out.q, by omega, by omega⟩
  have hP := hcut
  clear hcut
  clear e0 e1 e2 e3 e4 e5 e6 e7 e8 e9 s0 s1 s2 s3 s4 s5 s6 s7 r0 r1 r2 r3 r4 r5 r6 r7 r8 r9 r10 r11 m0 m1 m2 m3 m4 m5 m6 m7 m8 mf
  obtain ⟨⟨kd, et, tn, cl, ot, ep, fm, un, n⟩, kk, gr, ka, kb⟩ := hP
  replace GR := Lib.hid gr
  clear gr
  obtain ⟨⟨e0, e1, e2, e3, e4, e5, e6, e7, e8, e9⟩, ⟨s0, s1, s2, s3, s4, s5, s6, s7⟩, ⟨r0, r1, r2, r3, r4, r5, r6, r7, r8, r9, r10, r11⟩⟩ := HKA.out _ GR.out.fr
  obtain ⟨m0, m1, m2, m3, m4, m5, m6, m7, m8⟩ := en_cells GR.out.eb
  simp only at m0 m1 m2 m3 m4 m5 m6 m7 m8
  have mf := GR.out.eb.frozen
  go_upto_region 15 with fail
  go_cut [] from 96 to 103 (fun wx => (∃ e' k', GrS w5 t g3 A nl cp (fun e => 0 ≤ e.cell ∧ e.cell < (ms : Int)) wx k' e' ∧ k ≤ k' ∧ k' ≤ k + 7))
  case first =>
    go_region_law (first
      | (go_simp; go_at_call 35; refine (range_any (GR.out.tp.frNo (Fr.refl No _).drew) (by omega) _ _ (by omega) (by decide) (by omega)).mono ?_; rintro r v ⟨z, rfl, z1, z2, k2, j1, j2, hT, hF⟩; replace GR := Lib.hid ((GR.out.frNo (Fr.refl No _).drew).tape hT hF hneE); clear hT hF; clear e0 e1 e2 e3 e4 e5 e6 e7 e8 e9 s0 s1 s2 s3 s4 s5 s6 s7 r0 r1 r2 r3 r4 r5 r6 r7 r8 r9 r10 r11 m0 m1 m2 m3 m4 m5 m6 m7 m8 mf; obtain ⟨⟨e0, e1, e2, e3, e4, e5, e6, e7, e8, e9⟩, ⟨s0, s1, s2, s3, s4, s5, s6, s7⟩, ⟨r0, r1, r2, r3, r4, r5, r6, r7, r8, r9, r10, r11⟩⟩ := HKA.out _ GR.out.fr; obtain ⟨m0, m1, m2, m3, m4, m5, m6, m7, m8⟩ := en_cells GR.out.eb; simp only at m0 m1 m2 m3 m4 m5 m6 m7 m8; have mf := GR.out.eb.frozen; skip))
    all_goals go_wp2_with fail
    all_goals go_meet
    all_goals exact ⟨_, k2, GrS.put7 GR.out hlow hgE hneE _ (okw _) GR.out.q, by omega, by omega⟩
  have hP := hcut
  clear hcut
  clear e0 e1 e2 e3 e4 e5 e6 e7 e8 e9 s0 s1 s2 s3 s4 s5 s6 s7 r0 r1 r2 r3 r4 r5 r6 r7 r8 r9 r10 r11 m0 m1 m2 m3 m4 m5 m6 m7 m8 mf
  obtain ⟨⟨kd, et, tn, cl, ot, ep, fm, un, n⟩, kk, gr, ka, kb⟩ := hP
  replace GR := Lib.hid gr
  clear gr
  obtain ⟨⟨e0, e1, e2, e3, e4, e5, e6, e7, e8, e9⟩, ⟨s0, s1, s2, s3, s4, s5, s6, s7⟩, ⟨r0, r1, r2, r3, r4, r5, r6, r7, r8, r9, r10, r11⟩⟩ := HKA.out _ GR.out.fr
  obtain ⟨m0, m1, m2, m3, m4, m5, m6, m7, m8⟩ := en_cells GR.out.eb
  simp only at m0 m1 m2 m3 m4 m5 m6 m7 m8
  have mf := GR.out.eb.frozen
  go_upto_region 16 with fail
  go_cut [] from 104 to 111 (fun wx => (∃ e' k', GrS w5 t g3 A nl cp (fun e => 0 ≤ e.cell ∧ e.cell < (ms : Int)) wx k' e' ∧ k ≤ k' ∧ k' ≤ k + 7))
  case first =>
    have hq := GR.out.q
    simp only at hq
    obtain ⟨j, hj, hjl⟩ := nat_of hq.1 hq.2
    subst hj
    have hjx : (0 : Int) ≤ (j : Int) ∧ (j : Int) < (ms : Int) := by omega
    obtain ⟨bs, md, rn, wa, si, hbs, hbl, hrn, hwa, hrow⟩ := HCL.out j hjl
    subst hbs
    obtain ⟨d0, d1, d2, d3⟩ := hrow _ GR.out.fr
    clear hrow
    go_wp2_with fail
    go_meet
    exact ⟨_, kk, GrS.put8 GR.out hlow hgE hneE _ (okI_of (m := 17) (by (try dsimp only); omega) (by (try dsimp only); omega) (by decide)) GR.out.q, by omega, by omega⟩
  have hP := hcut
  clear hcut
  clear e0 e1 e2 e3 e4 e5 e6 e7 e8 e9 s0 s1 s2 s3 s4 s5 s6 s7 r0 r1 r2 r3 r4 r5 r6 r7 r8 r9 r10 r11 m0 m1 m2 m3 m4 m5 m6 m7 m8 mf
  obtain ⟨⟨kd, et, tn, cl, ot, ep, fm, un, n⟩, kk, gr, ka, kb⟩ := hP
  replace GR := Lib.hid gr
  clear gr
  obtain ⟨⟨e0, e1, e2, e3, e4, e5, e6, e7, e8, e9⟩, ⟨s0, s1, s2, s3, s4, s5, s6, s7⟩, ⟨r0, r1, r2, r3, r4, r5, r6, r7, r8, r9, r10, r11⟩⟩ := HKA.out _ GR.out.fr
  obtain ⟨m0, m1, m2, m3, m4, m5, m6, m7, m8⟩ := en_cells GR.out.eb
  simp only at m0 m1 m2 m3 m4 m5 m6 m7 m8
  have mf := GR.out.eb.frozen
  go_upto_region 17 with fail
  go_cut [113] from 112 to 113 (fun x wx => (∃ B : Bool, x = .bool B ∧ (True)) ∧ (∃ e' k', GrS w5 t g3 A nl cp (fun e => 0 ≤ e.cell ∧ e.cell < (ms : Int)) wx k' e' ∧ k ≤ k' ∧ k' ≤ k + 8))
  case first =>
    go_wp2_with fail
    refine (yes_any GR.out.tp (by omega) _ (by decide) (by decide)).mono ?_
    rintro r v ⟨B, rfl, k2, j1, j2, hT, hF⟩
    replace GR := Lib.hid (GR.out.tape hT hF hneE)
    clear hT hF
    clear e0 e1 e2 e3 e4 e5 e6 e7 e8 e9 s0 s1 s2 s3 s4 s5 s6 s7 r0 r1 r2 r3 r4 r5 r6 r7 r8 r9 r10 r11 m0 m1 m2 m3 m4 m5 m6 m7 m8 mf
    obtain ⟨⟨e0, e1, e2, e3, e4, e5, e6, e7, e8, e9⟩, ⟨s0, s1, s2, s3, s4, s5, s6, s7⟩, ⟨r0, r1, r2, r3, r4, r5, r6, r7, r8, r9, r10, r11⟩⟩ := HKA.out _ GR.out.fr
    obtain ⟨m0, m1, m2, m3, m4, m5, m6, m7, m8⟩ := en_cells GR.out.eb
    simp only at m0 m1 m2 m3 m4 m5 m6 m7 m8
    have mf := GR.out.eb.frozen
    go_wp2_with fail
    go_meet
    exact ⟨⟨_, rfl, trivial⟩, ⟨_, k2, GR.out, by omega, by omega⟩⟩
  obtain ⟨⟨B, rfl, hB⟩, hP⟩ := hcut
  clear e0 e1 e2 e3 e4 e5 e6 e7 e8 e9 s0 s1 s2 s3 s4 s5 s6 s7 r0 r1 r2 r3 r4 r5 r6 r7 r8 r9 r10 r11 m0 m1 m2 m3 m4 m5 m6 m7 m8 mf
  obtain ⟨⟨kd, et, tn, cl, ot, ep, fm, un, n⟩, kk, gr, ka, kb⟩ := hP
  replace GR := Lib.hid gr
  clear gr
  obtain ⟨⟨e0, e1, e2, e3, e4, e5, e6, e7, e8, e9⟩, ⟨s0, s1, s2, s3, s4, s5, s6, s7⟩, ⟨r0, r1, r2, r3, r4, r5, r6, r7, r8, r9, r10, r11⟩⟩ := HKA.out _ GR.out.fr
  obtain ⟨m0, m1, m2, m3, m4, m5, m6, m7, m8⟩ := en_cells GR.out.eb
  simp only at m0 m1 m2 m3 m4 m5 m6 m7 m8
  have mf := GR.out.eb.frozen
  go_upto_if 113 with fail
  go_cut [] from 114 to 127 (fun wx => (∃ e' k', GrS w5 t g3 A nl cp (fun e => 0 ≤ e.cell ∧ e.cell < (ms : Int)) wx k' e' ∧ k ≤ k' ∧ k' ≤ k + 9))
  case first =>
    rcases B with _ | _
    · go_wp2_with fail
      go_meet
      exact ⟨_, kk, GR.out, by omega, by omega⟩
    · go_upto_region 18 with fail
      go_cut [] from 114 to 123 (fun wx => (∃ e' k', GrS w5 t g3 A nl cp (fun e => 0 ≤ e.cell ∧ e.cell < (ms : Int)) wx k' e' ∧ k ≤ k' ∧ k' ≤ k + 9))
      case first =>
        go_region_law (first
          | (go_simp; go_at_call 34; refine (next_q (GR.out.tp.frNo (Fr.refl No _).drew) (by omega) _ (by decide) (by decide)).mono ?_; rintro r v ⟨z, rfl, z1, z2, k2, j1, j2, hT, hF⟩; replace GR := Lib.hid ((GR.out.frNo (Fr.refl No _).drew).tape hT hF hneE); clear hT hF; clear e0 e1 e2 e3 e4 e5 e6 e7 e8 e9 s0 s1 s2 s3 s4 s5 s6 s7 r0 r1 r2 r3 r4 r5 r6 r7 r8 r9 r10 r11 m0 m1 m2 m3 m4 m5 m6 m7 m8 mf; obtain ⟨⟨e0, e1, e2, e3, e4, e5, e6, e7, e8, e9⟩, ⟨s0, s1, s2, s3, s4, s5, s6, s7⟩, ⟨r0, r1, r2, r3, r4, r5, r6, r7, r8, r9, r10, r11⟩⟩ := HKA.out _ GR.out.fr; obtain ⟨m0, m1, m2, m3, m4, m5, m6, m7, m8⟩ := en_cells GR.out.eb; simp only at m0 m1 m2 m3 m4 m5 m6 m7 m8; have mf := GR.out.eb.frozen; skip))
        all_goals go_wp2_with fail
        all_goals go_meet
        all_goals first
          | exact ⟨_, k2, (GrS.put7 (GrS.put6 GR.out hlow hgE hneE _ (okw _) GR.out.q) hlow hgE hneE _ (okw _) GR.out.q), by omega, by omega⟩
          | exact ⟨_, k2, (GrS.put7 (GrS.put6 GR.out hlow hgE hneE _ (okw _) GR.out.q) hlow hgE hneE _ (ok64 _) GR.out.q), by omega, by omega⟩
          | exact ⟨_, k2, (GrS.put7 (GrS.put6 GR.out hlow hgE hneE _ (ok64 _) GR.out.q) hlow hgE hneE _ (okw _) GR.out.q), by omega, by omega⟩
          | exact ⟨_, k2, (GrS.put7 (GrS.put6 GR.out hlow hgE hneE _ (ok64 _) GR.out.q) hlow hgE hneE _ (ok64 _) GR.out.q), by omega, by omega⟩
          | exact ⟨_, k2, (GrS.put6 (GrS.put7 GR.out hlow hgE hneE _ (okw _) GR.out.q) hlow hgE hneE _ (okw _) GR.out.q), by omega, by omega⟩
          | exact ⟨_, k2, (GrS.put6 (GrS.put7 GR.out hlow hgE hneE _ (okw _) GR.out.q) hlow hgE hneE _ (ok64 _) GR.out.q), by omega, by omega⟩
          | exact ⟨_, k2, (GrS.put6 (GrS.put7 GR.out hlow hgE hneE _ (ok64 _) GR.out.q) hlow hgE hneE _ (okw _) GR.out.q), by omega, by omega⟩
          | exact ⟨_, k2, (GrS.put6 (GrS.put7 GR.out hlow hgE hneE _ (ok64 _) GR.out.q) hlow hgE hneE _ (ok64 _) GR.out.q), by omega, by omega⟩
      have hP := hcut
      clear hcut
      clear e0 e1 e2 e3 e4 e5 e6 e7 e8 e9 s0 s1 s2 s3 s4 s5 s6 s7 r0 r1 r2 r3 r4 r5 r6 r7 r8 r9 r10 r11 m0 m1 m2 m3 m4 m5 m6 m7 m8 mf
      obtain ⟨⟨kd, et, tn, cl, ot, ep, fm, un, n⟩, kk, gr, ka, kb⟩ := hP
      replace GR := Lib.hid gr
      clear gr
      obtain ⟨⟨e0, e1, e2, e3, e4, e5, e6, e7, e8, e9⟩, ⟨s0, s1, s2, s3, s4, s5, s6, s7⟩, ⟨r0, r1, r2, r3, r4, r5, r6, r7, r8, r9, r10, r11⟩⟩ := HKA.out _ GR.out.fr
      obtain ⟨m0, m1, m2, m3, m4, m5, m6, m7, m8⟩ := en_cells GR.out.eb
      simp only at m0 m1 m2 m3 m4 m5 m6 m7 m8
      have mf := GR.out.eb.frozen
      go_wp2_with fail
      all_goals go_meet
      all_goals exact ⟨_, kk, GrS.put6 GR.out hlow hgE hneE _ (by first | exact GR.out.ok.f6 | exact okI_lit 0 | exact okI_max (okI_lit 0) GR.out.ok.f6) GR.out.q, by omega, by omega⟩
  have hP := hcut
  clear hcut
  clear e0 e1 e2 e3 e4 e5 e6 e7 e8 e9 s0 s1 s2 s3 s4 s5 s6 s7 r0 r1 r2 r3 r4 r5 r6 r7 r8 r9 r10 r11 m0 m1 m2 m3 m4 m5 m6 m7 m8 mf
  obtain ⟨⟨kd, et, tn, cl, ot, ep, fm, un, n⟩, kk, gr, ka, kb⟩ := hP
  replace GR := Lib.hid gr
  clear gr
  obtain ⟨⟨e0, e1, e2, e3, e4, e5, e6, e7, e8, e9⟩, ⟨s0, s1, s2, s3, s4, s5, s6, s7⟩, ⟨r0, r1, r2, r3, r4, r5, r6, r7, r8, r9, r10, r11⟩⟩ := HKA.out _ GR.out.fr
  obtain ⟨m0, m1, m2, m3, m4, m5, m6, m7, m8⟩ := en_cells GR.out.eb
  simp only at m0 m1 m2 m3 m4 m5 m6 m7 m8
  have mf := GR.out.eb.frozen
  have hT := EnLe.fill (w := w) (k0 := k) (d := 9) (q := g4) GR.out hbase hlow hgE hg4 hne4t ⟨by omega, by omega⟩
  have h4f := H4.out _ GR.out.fr
  have hT8 := en_fill (q := g4) (⟨kd, et, tn, cl, ot, ep, fm, un, n⟩ : En) rfl h4f
  obtain ⟨y0, y1, y2, y3, y4, y5, y6, y7, y8⟩ := en_cells (e := ⟨0, 0, 0, 0, 0, 0, 0, 0, 0⟩) h4f
  simp only at y0 y1 y2 y3 y4 y5 y6 y7 y8
  have q0 := h4f.frozen 0
  have q1 := h4f.frozen 1
  have q2 := h4f.frozen 2
  have q3 := h4f.frozen 3
  have q4 := h4f.frozen 4
  have q5 := h4f.frozen 5
  have q6 := h4f.frozen 6
  have q7 := h4f.frozen 7
  have q8 := h4f.frozen 8
  clear h4f
  have HT := Lib.hid hT
  have HT8 := Lib.hid hT8
  clear hT hT8
  go_wp2_with fail
  exact bodyPost_ret (v := .agg (EnArr ⟨kd, et, tn, cl, ot, ep, fm, un, n⟩)) (grantm_results ⟨kd, et, tn, cl, ot, ep, fm, un, n⟩ g4 _ _ HT8.out rfl) rfl HT.out
end Go.Proofs.YtanhbebikcoliaaDoor
