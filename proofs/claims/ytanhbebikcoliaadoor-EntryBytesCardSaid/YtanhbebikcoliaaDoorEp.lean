/-
  platform.
-/
import Derived.Test.YtanhbebikcoliaaDoorG12
namespace Go.Proofs.YtanhbebikcoliaaDoor
open Go.ChangeShapes Go.WideShapes Go.ChangeAt Go.RowKit
set_option linter.unusedVariables false
set_option maxRecDepth 100000 in
set_option maxHeartbeats 8000000 in
theorem platform_any {w : World} {t : Nat} {A : Option Addr} {nl cp k : Nat} {G : Nat → Prop} {c : Cf} {s : St} (hT : Tp w t A nl cp k) (hk : k ≤ 999000) (h : CfOk w c) (hs : StOk w G c s) (tick : Int) (htk : okI tick) :
    Calls Tryd.prog 37 #[.pointer (some ⟨t, 0, none⟩), .agg c.arr, .agg s.arr, .int .i64 tick] w (EnTo w t A nl cp k 4) := by
  have hlow := hT.low
  have htl := hT.blk.lt
  have hcel := fun i (hi : i < c.nc) => hs.cell hi
  have hbtt : ∀ b, s.Bs = some ⟨b, 0, none⟩ → b ≠ t := fun b hb => by
    obtain ⟨b', cur, e1, -, e3, -⟩ := hs.cells
    rw [hb] at e1
    injection e1 with e1
    injection e1 with e1
    subst e1
    exact hT.ne e3 (by decide)
  have hnc1 := h.nc1
  have hnc2 := h.nc2
  have hnv1 := h.nv1
  have hnv2 := h.nv2
  have hrg1 := h.rg1
  have hrg2 := h.rg2
  have hle1 := h.le1
  have hle2 := h.le2
  have hbk2 := h.bk2
  have hms := hs.ms
  have hmt := hs.mt
  obtain ⟨rg, nz, nc, nt, nv, le, bk, bz, bc, bv, cz, cc, ct, cv, At, Ar, nr, cr, Ao, no_, co, bl⟩ := c
  obtain ⟨tk, cn, Bt, mt, dt, Bs, ms, ds, pr, ev, lo, hi⟩ := s
  simp only at *
  subst hms hmt
  clear hs h
  obtain ⟨w1, hw1⟩ : ∃ w1, w1 = w.alloc (.cells #[.int .i64 (rg : Int), .slice (some ⟨bz, 0, none⟩) nz cz, .slice (some ⟨bc, 0, none⟩) ms cc, .slice At mt ct, .slice (some ⟨bv, 0, none⟩) nv cv, .slice Ar nr cr, .slice Ao no_ co, .int .i64 bl, .int .i64 (le : Int), .int .i64 (bk : Int)] TCf) := ⟨_, rfl⟩
  obtain ⟨g1, hg1⟩ : ∃ g1, g1 = w.heap.size := ⟨_, rfl⟩
  have hb1 : Blk w1 g1 TCf #[.int .i64 (rg : Int), .slice (some ⟨bz, 0, none⟩) nz cz, .slice (some ⟨bc, 0, none⟩) ms cc, .slice At mt ct, .slice (some ⟨bv, 0, none⟩) nv cv, .slice Ar nr cr, .slice Ao no_ co, .int .i64 bl, .int .i64 (le : Int), .int .i64 (bk : Int)] := by rw [hw1, hg1]; exact Blk.new _ _ _
  have f1 : Fr No w w1 := by rw [hw1]; exact fr_alloc _ _
  have hs1 : w1.heap.size = g1 + 1 := by rw [hw1, hg1]; simp
  obtain ⟨w2, hw2⟩ : ∃ w2, w2 = w1.alloc (.cells #[.int .i64 tk, .int .i64 cn, .slice Bt mt dt, .slice Bs ms ds, .int .i64 pr, .int .i64 ev, .int .i64 lo, .int .i64 hi] TSt) := ⟨_, rfl⟩
  obtain ⟨g2, hg2⟩ : ∃ g2, g2 = w1.heap.size := ⟨_, rfl⟩
  have hb2 : Blk w2 g2 TSt #[.int .i64 tk, .int .i64 cn, .slice Bt mt dt, .slice Bs ms ds, .int .i64 pr, .int .i64 ev, .int .i64 lo, .int .i64 hi] := by rw [hw2, hg2]; exact Blk.new _ _ _
  have f2 : Fr No w1 w2 := by rw [hw2]; exact fr_alloc _ _
  have hs2 : w2.heap.size = g2 + 1 := by rw [hw2, hg2]; simp
  obtain ⟨w3, hw3⟩ : ∃ w3, w3 = w2.alloc (.cells #[.int .i64 0, .int .i64 0, .int .i64 0, .int .i64 0, .int .i64 0, .int .i64 0, .int .i64 0, .int .i64 0, .int .i64 0] TEm) := ⟨_, rfl⟩
  obtain ⟨g3, hg3⟩ : ∃ g3, g3 = w2.heap.size := ⟨_, rfl⟩
  have hb3 : Blk w3 g3 TEm #[.int .i64 0, .int .i64 0, .int .i64 0, .int .i64 0, .int .i64 0, .int .i64 0, .int .i64 0, .int .i64 0, .int .i64 0] := by rw [hw3, hg3]; exact Blk.new _ _ _
  have f3 : Fr No w2 w3 := by rw [hw3]; exact fr_alloc _ _
  have hs3 : w3.heap.size = g3 + 1 := by rw [hw3, hg3]; simp
  have hB1 : Blk w3 g1 TCf #[.int .i64 (rg : Int), .slice (some ⟨bz, 0, none⟩) nz cz, .slice (some ⟨bc, 0, none⟩) ms cc, .slice At mt ct, .slice (some ⟨bv, 0, none⟩) nv cv, .slice Ar nr cr, .slice Ao no_ co, .int .i64 bl, .int .i64 (le : Int), .int .i64 (bk : Int)] := hb1.fr (((Fr.refl No _).transNo f2).transNo f3) (fun h => h)
  have hB2 : Blk w3 g2 TSt #[.int .i64 tk, .int .i64 cn, .slice Bt mt dt, .slice Bs ms ds, .int .i64 pr, .int .i64 ev, .int .i64 lo, .int .i64 hi] := hb2.fr ((Fr.refl No _).transNo f3) (fun h => h)
  have hB3 : Blk w3 g3 TEm #[.int .i64 0, .int .i64 0, .int .i64 0, .int .i64 0, .int .i64 0, .int .i64 0, .int .i64 0, .int .i64 0, .int .i64 0] := hb3.fr (Fr.refl No _) (fun h => h)
  have fW : Fr No w w3 := (((Fr.refl No w).transNo f1).transNo f2).transNo f3
  have he2 : g2 = g1 + 1 := by rw [hg2, hs1]
  have he3 : g3 = g1 + 2 := by rw [hg3, hs2]; rw [he2]
  have hka : ∀ V, Fr No w3 V → (V.cell? ⟨g1, 0, none⟩ = some (.int .i64 (rg : Int)) ∧ V.cell? ⟨g1, 1, none⟩ = some (.slice (some ⟨bz, 0, none⟩) nz cz) ∧ V.cell? ⟨g1, 2, none⟩ = some (.slice (some ⟨bc, 0, none⟩) ms cc) ∧ V.cell? ⟨g1, 3, none⟩ = some (.slice At mt ct) ∧ V.cell? ⟨g1, 4, none⟩ = some (.slice (some ⟨bv, 0, none⟩) nv cv) ∧ V.cell? ⟨g1, 5, none⟩ = some (.slice Ar nr cr) ∧ V.cell? ⟨g1, 6, none⟩ = some (.slice Ao no_ co) ∧ V.cell? ⟨g1, 7, none⟩ = some (.int .i64 bl) ∧ V.cell? ⟨g1, 8, none⟩ = some (.int .i64 (le : Int)) ∧ V.cell? ⟨g1, 9, none⟩ = some (.int .i64 (bk : Int))) ∧ (V.cell? ⟨g2, 0, none⟩ = some (.int .i64 tk) ∧ V.cell? ⟨g2, 1, none⟩ = some (.int .i64 cn) ∧ V.cell? ⟨g2, 2, none⟩ = some (.slice Bt mt dt) ∧ V.cell? ⟨g2, 3, none⟩ = some (.slice Bs ms ds) ∧ V.cell? ⟨g2, 4, none⟩ = some (.int .i64 pr) ∧ V.cell? ⟨g2, 5, none⟩ = some (.int .i64 ev) ∧ V.cell? ⟨g2, 6, none⟩ = some (.int .i64 lo) ∧ V.cell? ⟨g2, 7, none⟩ = some (.int .i64 hi)) ∧ (V.cell? ⟨g3, 0, none⟩ = some (.int .i64 0) ∧ V.cell? ⟨g3, 1, none⟩ = some (.int .i64 0) ∧ V.cell? ⟨g3, 2, none⟩ = some (.int .i64 0) ∧ V.cell? ⟨g3, 3, none⟩ = some (.int .i64 0) ∧ V.cell? ⟨g3, 4, none⟩ = some (.int .i64 0) ∧ V.cell? ⟨g3, 5, none⟩ = some (.int .i64 0) ∧ V.cell? ⟨g3, 6, none⟩ = some (.int .i64 0) ∧ V.cell? ⟨g3, 7, none⟩ = some (.int .i64 0) ∧ V.cell? ⟨g3, 8, none⟩ = some (.int .i64 0)) := fun V hf => ⟨(let k := hB1.fr hf (fun h => h); ⟨k.cell 0, k.cell 1, k.cell 2, k.cell 3, k.cell 4, k.cell 5, k.cell 6, k.cell 7, k.cell 8, k.cell 9⟩), (let k := hB2.fr hf (fun h => h); ⟨k.cell 0, k.cell 1, k.cell 2, k.cell 3, k.cell 4, k.cell 5, k.cell 6, k.cell 7⟩), (let k := hB3.fr hf (fun h => h); ⟨k.cell 0, k.cell 1, k.cell 2, k.cell 3, k.cell 4, k.cell 5, k.cell 6, k.cell 7, k.cell 8⟩)⟩
  have hW : w3 = ((w.alloc (.cells #[.int .i64 (rg : Int), .slice (some ⟨bz, 0, none⟩) nz cz, .slice (some ⟨bc, 0, none⟩) ms cc, .slice At mt ct, .slice (some ⟨bv, 0, none⟩) nv cv, .slice Ar nr cr, .slice Ao no_ co, .int .i64 bl, .int .i64 (le : Int), .int .i64 (bk : Int)] TCf)).alloc (.cells #[.int .i64 tk, .int .i64 cn, .slice Bt mt dt, .slice Bs ms ds, .int .i64 pr, .int .i64 ev, .int .i64 lo, .int .i64 hi] TSt)).alloc (.cells #[.int .i64 0, .int .i64 0, .int .i64 0, .int .i64 0, .int .i64 0, .int .i64 0, .int .i64 0, .int .i64 0, .int .i64 0] TEm) := by rw [hw3, hw2, hw1]
  have hl1 : g1 < w3.heap.size := hB1.lt
  have hl2 : g2 < w3.heap.size := hB2.lt
  have hl3 : g3 < w3.heap.size := hB3.lt
  clear hw1 hb1 hs1 hw2 hb2 hs2 hw3 hb3 hs3
  have HG1 := Lib.hid hg1
  have HG2 := Lib.hid hg2
  have HG3 := Lib.hid hg3
  have HE2 := Lib.hid he2
  have HE3 := Lib.hid he3
  clear hg1 hg2 hg3 he2 he3
  have hg3 : w.heap.size ≤ g3 := by rw [HE3.out, HG1.out]; omega
  have hg1 : w.heap.size ≤ g1 := by rw [HG1.out]; omega
  have hg2 : w.heap.size ≤ g2 := by rw [HE2.out, HG1.out]; omega
  have hne3t : g3 ≠ t := by omega
  have hne1t : g1 ≠ t := by omega
  have hne2t : g2 ≠ t := by omega
  have hT3 := hT.frNo fW
  have HCEL := Lib.hid hcel
  have HBTT := Lib.hid hbtt
  have HKA := Lib.hid hka
  have HW := Lib.hid hW
  have HT3 := Lib.hid hT3
  clear hcel hbtt hka hW hT3
  go_enter Tryd.func37, Tryd.ntmps37
  go_upto_region 1 with fail
  rw [← HW.out]
  try rw [← show g3 = w.heap.size + 2 from by rw [HE3.out, HG1.out]]
  try rw [← show g2 = w.heap.size + 1 from by rw [HE2.out, HG1.out]]
  try rw [← HG1.out]
  obtain ⟨⟨e0, e1, e2, e3, e4, e5, e6, e7, e8, e9⟩, ⟨s0, s1, s2, s3, s4, s5, s6, s7⟩, ⟨y0, y1, y2, y3, y4, y5, y6, y7, y8⟩⟩ := HKA.out w3 (Fr.refl _ _)
  go_wp2_with fail
  refine (nonem_any _ _ _).mono ?_
  rintro r v4 ⟨rfl, f4⟩
  go_upto_region 2 with fail
  obtain ⟨w5, hw5⟩ : ∃ w5, w5 = v4.alloc (.cells (EnArr ⟨16, tick, (-1), (-1), (-1), 0, 0, 0, 0⟩) TEm) := ⟨_, rfl⟩
  obtain ⟨gE, hgE0⟩ : ∃ gE, gE = v4.heap.size := ⟨_, rfl⟩
  have hs4 := f4.size
  have hsW := fW.size
  have hgE : w.heap.size ≤ gE := by omega
  have hneE : gE ≠ t := by omega
  have hne3 : g3 ≠ gE := by omega
  have hne1 : g1 ≠ gE := by omega
  have hne2 : g2 ≠ gE := by omega
  have f5 : Fr No v4 w5 := by rw [hw5]; exact fr_alloc _ _
  have f35 := f4.transNo f5
  have gr0 : GrS w5 t gE A nl cp (fun _ => True) w5 k ⟨16, tick, (-1), (-1), (-1), 0, 0, 0, 0⟩ := ⟨by rw [hw5, hgE0]; exact Blk.new _ _ _, ⟨(okI_lit _), htk, (okI_lit _), (okI_lit _), (okI_lit _), (okI_lit _), (okI_lit _), (okI_lit _), (okI_lit _)⟩, trivial, HT3.out.frNo f35, Fr.refl _ _⟩
  have hw5b : w5.heap.size = gE + 1 := by rw [hw5, hgE0]; simp
  rw [← hw5, ← hgE0]
  have hC1 := hB1.fr f35 (fun h => h)
  have hC2 := hB2.fr f35 (fun h => h)
  have hC3 := hB3.fr f35 (fun h => h)
  have hnF : ∀ {g : Nat}, g ≠ t → g ≠ gE → ¬ (g = t ∨ g = gE) := fun a b c => by omega
  have hka5 := fun V (hV : Fr (fun i => i = t ∨ i = gE) w5 V) => (⟨(let k := hC1.fr hV (hnF hne1t hne1); ⟨k.cell 0, k.cell 1, k.cell 2, k.cell 3, k.cell 4, k.cell 5, k.cell 6, k.cell 7, k.cell 8, k.cell 9⟩), (let k := hC2.fr hV (hnF hne2t hne2); ⟨k.cell 0, k.cell 1, k.cell 2, k.cell 3, k.cell 4, k.cell 5, k.cell 6, k.cell 7⟩)⟩ : (V.cell? ⟨g1, 0, none⟩ = some (.int .i64 (rg : Int)) ∧ V.cell? ⟨g1, 1, none⟩ = some (.slice (some ⟨bz, 0, none⟩) nz cz) ∧ V.cell? ⟨g1, 2, none⟩ = some (.slice (some ⟨bc, 0, none⟩) ms cc) ∧ V.cell? ⟨g1, 3, none⟩ = some (.slice At mt ct) ∧ V.cell? ⟨g1, 4, none⟩ = some (.slice (some ⟨bv, 0, none⟩) nv cv) ∧ V.cell? ⟨g1, 5, none⟩ = some (.slice Ar nr cr) ∧ V.cell? ⟨g1, 6, none⟩ = some (.slice Ao no_ co) ∧ V.cell? ⟨g1, 7, none⟩ = some (.int .i64 bl) ∧ V.cell? ⟨g1, 8, none⟩ = some (.int .i64 (le : Int)) ∧ V.cell? ⟨g1, 9, none⟩ = some (.int .i64 (bk : Int))) ∧ (V.cell? ⟨g2, 0, none⟩ = some (.int .i64 tk) ∧ V.cell? ⟨g2, 1, none⟩ = some (.int .i64 cn) ∧ V.cell? ⟨g2, 2, none⟩ = some (.slice Bt mt dt) ∧ V.cell? ⟨g2, 3, none⟩ = some (.slice Bs ms ds) ∧ V.cell? ⟨g2, 4, none⟩ = some (.int .i64 pr) ∧ V.cell? ⟨g2, 5, none⟩ = some (.int .i64 ev) ∧ V.cell? ⟨g2, 6, none⟩ = some (.int .i64 lo) ∧ V.cell? ⟨g2, 7, none⟩ = some (.int .i64 hi)))
  have h3 := fun V (hV : Fr (fun i => i = t ∨ i = gE) w5 V) => (hC3.fr hV (hnF hne3t hne3) : Blk V g3 TEm (EnArr (⟨0, 0, 0, 0, 0, 0, 0, 0, 0⟩ : En)))
  have hbase : Fr (fun i => i = t) w w5 := (fW.transNo f35).mono (fun _ h => h.elim)
  have hw05 := fW.transNo f35
  have hcl5 : ∀ i, i < ms → ∃ (b : Nat) (m : Int) (r a : Nat) (e : Int), Bs = some ⟨b, 0, none⟩ ∧ b < w.heap.size ∧ r < nv ∧ a < nv ∧ ∀ V, Fr (fun i => i = t ∨ i = gE) w5 V → V.cell? ⟨b, i * 4, none⟩ = some (.int .i64 m) ∧ V.cell? ⟨b, i * 4 + 1, none⟩ = some (.int .i64 (r : Int)) ∧ V.cell? ⟨b, i * 4 + 2, none⟩ = some (.int .i64 (a : Int)) ∧ V.cell? ⟨b, i * 4 + 3, none⟩ = some (.int .i64 e) := fun i hi => by
    obtain ⟨b, m, r, a, e, h1, -, hbl, hr, ha, hc⟩ := HCEL.out i hi
    have hbt := HBTT.out b h1
    refine ⟨b, m, r, a, e, h1, hbl, hr, ha, fun V hV => ?_⟩
    obtain ⟨c0, c1, c2, c3⟩ := hc w5 hw05
    have hb5 : b < w5.heap.size := Nat.lt_of_lt_of_le hbl hw05.size
    have hn : ¬ (b = t ∨ b = gE) := by omega
    exact ⟨(hV.cell (p := ⟨b, i * 4, none⟩) hb5 hn).trans c0, (hV.cell (p := ⟨b, i * 4 + 1, none⟩) hb5 hn).trans c1, (hV.cell (p := ⟨b, i * 4 + 2, none⟩) hb5 hn).trans c2, (hV.cell (p := ⟨b, i * 4 + 3, none⟩) hb5 hn).trans c3⟩
  clear hw5 hgE0 f35 f4 f5 e0 e1 e2 e3 e4 e5 e6 e7 e8 e9 s0 s1 s2 s3 s4 s5 s6 s7 y0 y1 y2 y3 y4 y5 y6 y7 y8 hT
  have GR := Lib.hid gr0
  clear gr0 HKA
  have HKA5 := Lib.hid hka5
  have H3 := Lib.hid h3
  have HCL5 := Lib.hid hcl5
  clear hka5 h3 hcl5
  have hbase5 := Lib.hid hbase
  obtain ⟨⟨e0, e1, e2, e3, e4, e5, e6, e7, e8, e9⟩, ⟨s0, s1, s2, s3, s4, s5, s6, s7⟩⟩ := HKA5.out w5 GR.out.fr
  go_wp2_with fail
  refine (next_any GR.out.tp (by omega) _ (by omega) (by omega)).mono ?_
  rintro r v ⟨jj, rfl, b1, b2, k1, j1, j2, j3, hT, hF⟩
  replace GR := Lib.hid (GR.out.tape hT hF hneE)
  clear hT hF
  clear e0 e1 e2 e3 e4 e5 e6 e7 e8 e9 s0 s1 s2 s3 s4 s5 s6 s7
  obtain ⟨⟨e0, e1, e2, e3, e4, e5, e6, e7, e8, e9⟩, ⟨s0, s1, s2, s3, s4, s5, s6, s7⟩⟩ := HKA5.out _ GR.out.fr
  obtain ⟨j, rfl, hj⟩ := nat_of (i := jj) (n := ms) (by omega) (by omega)
  have hjx : (0 : Int) ≤ (j : Int) ∧ (j : Int) < (ms : Int) := by omega
  obtain ⟨bs, md, rn, wa, si, rfl, hbl, hrn, hwa, hrow⟩ := HCL5.out j hj
  obtain ⟨d0, d1, d2, d3⟩ := hrow _ GR.out.fr
  go_upto_region 4 with fail
  obtain ⟨w6, hw6⟩ : ∃ w6, w6 = v.alloc (.cells #[.int .i64 md, .int .i64 (rn : Int), .int .i64 (wa : Int), .int .i64 si] TCs) := ⟨_, rfl⟩
  obtain ⟨gx, hgx⟩ : ∃ gx, gx = v.heap.size := ⟨_, rfl⟩
  have f6 : Fr No v w6 := by rw [hw6]; exact fr_alloc _ _
  have hbx : Blk w6 gx TCs #[.int .i64 md, .int .i64 (rn : Int), .int .i64 (wa : Int), .int .i64 si] := by rw [hw6, hgx]; exact Blk.new _ _ _
  have hvl := GR.out.eb.lt
  have htv := GR.out.tp.blk.lt
  have hnx : ¬ (gx = t ∨ gx = gE) := by omega
  rw [← hw6, ← hgx]
  replace GR := Lib.hid (GR.out.frNo f6)
  have hx6 := fun V (hV : Fr (fun i => i = t ∨ i = gE) w6 V) => (let k := hbx.fr hV hnx; ⟨k.cell 0, k.cell 1, k.cell 2, k.cell 3⟩ : V.cell? ⟨gx, 0, none⟩ = some (.int .i64 md) ∧ V.cell? ⟨gx, 1, none⟩ = some (.int .i64 (rn : Int)) ∧ V.cell? ⟨gx, 2, none⟩ = some (.int .i64 (wa : Int)) ∧ V.cell? ⟨gx, 3, none⟩ = some (.int .i64 si))
  have hto6 := GR.out.fr
  have hka6 := fun V (hV : Fr (fun i => i = t ∨ i = gE) w6 V) => HKA5.out V (hto6.trans hV (fun i hi => .inl hi))
  have h36 := fun V (hV : Fr (fun i => i = t ∨ i = gE) w6 V) => H3.out V (hto6.trans hV (fun i hi => .inl hi))
  have hb6 : Fr (fun i => i = t) w w6 := hbase5.out.trans hto6 (fun i hi => by rcases hi with hi | hi; exact .inl hi; exact .inr (by omega))
  replace GR := Lib.hid GR.out.rebase
  clear hw6 hgx hbx f6 hrow hto6 HKA5 H3 hbase5 hbase d0 d1 d2 d3 e0 e1 e2 e3 e4 e5 e6 e7 e8 e9 s0 s1 s2 s3 s4 s5 s6 s7
  have hbase := hb6
  clear hb6
  have HKA := Lib.hid hka6
  have H3 := Lib.hid h36
  have HX := Lib.hid hx6
  clear hka6 h36 hx6
  obtain ⟨⟨e0, e1, e2, e3, e4, e5, e6, e7, e8, e9⟩, ⟨s0, s1, s2, s3, s4, s5, s6, s7⟩⟩ := HKA.out _ GR.out.fr
  obtain ⟨x0, x1, x2, x3⟩ := HX.out _ GR.out.fr
  go_wp2_with fail
  refine (next_any GR.out.tp (by omega) _ (by decide) (by decide)).mono ?_
  rintro r v ⟨y, rfl, b1, b2, k2, j4, j5, j6, hT, hF⟩
  replace GR := Lib.hid (GR.out.tape hT hF hneE)
  clear hT hF
  clear e0 e1 e2 e3 e4 e5 e6 e7 e8 e9 s0 s1 s2 s3 s4 s5 s6 s7 x0 x1 x2 x3
  obtain ⟨⟨e0, e1, e2, e3, e4, e5, e6, e7, e8, e9⟩, ⟨s0, s1, s2, s3, s4, s5, s6, s7⟩⟩ := HKA.out _ GR.out.fr
  obtain ⟨x0, x1, x2, x3⟩ := HX.out _ GR.out.fr
  rcases (show y = 0 ∨ y = 1 ∨ y = 2 ∨ y = 3 ∨ y = 4 ∨ y = 5 ∨ y = 6 ∨ y = 7 ∨ y = 8 ∨ y = 9 ∨ y = 10 ∨ y = 11 from by omega) with rfl | rfl | rfl | rfl | rfl | rfl | rfl | rfl | rfl | rfl | rfl | rfl
  · go_wp2_with fail
    refine (range_any GR.out.tp (by omega) _ _ (by decide) (by decide) (by decide)).mono ?_
    rintro r v ⟨z, rfl, z1, z2, k3, j7, j8, hT, hF⟩
    replace GR := Lib.hid (GR.out.tape hT hF hneE)
    clear hT hF
    clear e0 e1 e2 e3 e4 e5 e6 e7 e8 e9 s0 s1 s2 s3 s4 s5 s6 s7 x0 x1 x2 x3
    obtain ⟨⟨e0, e1, e2, e3, e4, e5, e6, e7, e8, e9⟩, ⟨s0, s1, s2, s3, s4, s5, s6, s7⟩⟩ := HKA.out _ GR.out.fr
    obtain ⟨x0, x1, x2, x3⟩ := HX.out _ GR.out.fr
    have hg0 := GrS.put GR.out hlow hgE hneE 0 9 ⟨9, tick, (-1), (-1), (-1), 0, 0, 0, 0⟩ rfl ⟨(okI_lit _), htk, (okI_lit _), (okI_lit _), (okI_lit _), (okI_lit _), (okI_lit _), (okI_lit _), (okI_lit _)⟩ trivial
    have hg1 := GrS.put hg0 hlow hgE hneE 3 (j : Int) ⟨9, tick, (-1), (j : Int), (-1), 0, 0, 0, 0⟩ rfl ⟨(okI_lit _), htk, (okI_lit _), (okI_of (m := 17) (by (try dsimp only); omega) (by (try dsimp only); omega) (by decide)), (okI_lit _), (okI_lit _), (okI_lit _), (okI_lit _), (okI_lit _)⟩ trivial
    have hg2 := GrS.put hg1 hlow hgE hneE 8 z ⟨9, tick, (-1), (j : Int), (-1), 0, 0, 0, z⟩ rfl ⟨(okI_lit _), htk, (okI_lit _), (okI_of (m := 17) (by (try dsimp only); omega) (by (try dsimp only); omega) (by decide)), (okI_lit _), (okI_lit _), (okI_lit _), (okI_lit _), (okI_of (m := 100) (by (try dsimp only); omega) (by (try dsimp only); omega) (by decide))⟩ trivial
    have hb9 := ((((H3.out _ GR.out.fr)).fr (fr_set _ ⟨gE, 0, none⟩ (.int .i64 9)) hne3).fr (fr_set _ ⟨gE, 3, none⟩ (.int .i64 (j : Int))) hne3).fr (fr_set _ ⟨gE, 8, none⟩ (.int .i64 z)) hne3
    have hT := EnTo.fill (w := w) (k0 := k) (d := 4) (q := g3) hg2 hbase hlow hgE hg3 hne3t ⟨by omega, by omega, fun h => by have := j3 h; omega⟩
    have hT8 := en_fill (q := g3) ⟨9, tick, (-1), (j : Int), (-1), 0, 0, 0, z⟩ rfl hb9
    have h3f := H3.out _ GR.out.fr
    obtain ⟨y0, y1, y2, y3, y4, y5, y6, y7, y8⟩ := en_cells (e := ⟨0, 0, 0, 0, 0, 0, 0, 0, 0⟩) h3f
    simp only at y0 y1 y2 y3 y4 y5 y6 y7 y8
    have q0 := h3f.frozen 0
    have q1 := h3f.frozen 1
    have q2 := h3f.frozen 2
    have q3 := h3f.frozen 3
    have q4 := h3f.frozen 4
    have q5 := h3f.frozen 5
    have q6 := h3f.frozen 6
    have q7 := h3f.frozen 7
    have q8 := h3f.frozen 8
    obtain ⟨m0, m1, m2, m3, m4, m5, m6, m7, m8⟩ := en_cells GR.out.eb
    simp only at m0 m1 m2 m3 m4 m5 m6 m7 m8
    have r0 := GR.out.eb.frozen
    clear hb9 h3f hg0 hg1 hg2
    have HT := Lib.hid hT
    have HT8 := Lib.hid hT8
    clear hT hT8
    go_wp2_with fail
    exact bodyPost_ret (v := .agg (EnArr ⟨9, tick, (-1), (j : Int), (-1), 0, 0, 0, z⟩)) (platformm_results ⟨9, tick, (-1), (j : Int), (-1), 0, 0, 0, z⟩ g3 _ _ HT8.out rfl) rfl HT.out
  · have hg0 := GrS.put GR.out hlow hgE hneE 0 9 ⟨9, tick, (-1), (-1), (-1), 0, 0, 0, 0⟩ rfl ⟨(okI_lit _), htk, (okI_lit _), (okI_lit _), (okI_lit _), (okI_lit _), (okI_lit _), (okI_lit _), (okI_lit _)⟩ trivial
    have hg1 := GrS.put hg0 hlow hgE hneE 3 (j : Int) ⟨9, tick, (-1), (j : Int), (-1), 0, 0, 0, 0⟩ rfl ⟨(okI_lit _), htk, (okI_lit _), (okI_of (m := 17) (by (try dsimp only); omega) (by (try dsimp only); omega) (by decide)), (okI_lit _), (okI_lit _), (okI_lit _), (okI_lit _), (okI_lit _)⟩ trivial
    have hg2 := GrS.put hg1 hlow hgE hneE 8 1 ⟨9, tick, (-1), (j : Int), (-1), 0, 0, 0, 1⟩ rfl ⟨(okI_lit _), htk, (okI_lit _), (okI_of (m := 17) (by (try dsimp only); omega) (by (try dsimp only); omega) (by decide)), (okI_lit _), (okI_lit _), (okI_lit _), (okI_lit _), (okI_lit _)⟩ trivial
    have hb9 := ((((H3.out _ GR.out.fr)).fr (fr_set _ ⟨gE, 0, none⟩ (.int .i64 9)) hne3).fr (fr_set _ ⟨gE, 3, none⟩ (.int .i64 (j : Int))) hne3).fr (fr_set _ ⟨gE, 8, none⟩ (.int .i64 1)) hne3
    have hT := EnTo.fill (w := w) (k0 := k) (d := 4) (q := g3) hg2 hbase hlow hgE hg3 hne3t ⟨by omega, by omega, fun h => by have := j3 h; omega⟩
    have hT8 := en_fill (q := g3) ⟨9, tick, (-1), (j : Int), (-1), 0, 0, 0, 1⟩ rfl hb9
    have h3f := H3.out _ GR.out.fr
    obtain ⟨y0, y1, y2, y3, y4, y5, y6, y7, y8⟩ := en_cells (e := ⟨0, 0, 0, 0, 0, 0, 0, 0, 0⟩) h3f
    simp only at y0 y1 y2 y3 y4 y5 y6 y7 y8
    have q0 := h3f.frozen 0
    have q1 := h3f.frozen 1
    have q2 := h3f.frozen 2
    have q3 := h3f.frozen 3
    have q4 := h3f.frozen 4
    have q5 := h3f.frozen 5
    have q6 := h3f.frozen 6
    have q7 := h3f.frozen 7
    have q8 := h3f.frozen 8
    obtain ⟨m0, m1, m2, m3, m4, m5, m6, m7, m8⟩ := en_cells GR.out.eb
    simp only at m0 m1 m2 m3 m4 m5 m6 m7 m8
    have r0 := GR.out.eb.frozen
    clear hb9 h3f hg0 hg1 hg2
    have HT := Lib.hid hT
    have HT8 := Lib.hid hT8
    clear hT hT8
    go_wp2_with fail
    exact bodyPost_ret (v := .agg (EnArr ⟨9, tick, (-1), (j : Int), (-1), 0, 0, 0, 1⟩)) (platformm_results ⟨9, tick, (-1), (j : Int), (-1), 0, 0, 0, 1⟩ g3 _ _ HT8.out rfl) rfl HT.out
  · go_wp2_with fail
    refine (next_any GR.out.tp (by omega) _ (by omega) (by omega)).mono ?_
    rintro r v ⟨z, rfl, z1, z2, k3, j7, j8, j9, hT, hF⟩
    replace GR := Lib.hid (GR.out.tape hT hF hneE)
    clear hT hF
    clear e0 e1 e2 e3 e4 e5 e6 e7 e8 e9 s0 s1 s2 s3 s4 s5 s6 s7 x0 x1 x2 x3
    obtain ⟨⟨e0, e1, e2, e3, e4, e5, e6, e7, e8, e9⟩, ⟨s0, s1, s2, s3, s4, s5, s6, s7⟩⟩ := HKA.out _ GR.out.fr
    obtain ⟨x0, x1, x2, x3⟩ := HX.out _ GR.out.fr
    have hg0 := GrS.put GR.out hlow hgE hneE 0 10 ⟨10, tick, (-1), (-1), (-1), 0, 0, 0, 0⟩ rfl ⟨(okI_lit _), htk, (okI_lit _), (okI_lit _), (okI_lit _), (okI_lit _), (okI_lit _), (okI_lit _), (okI_lit _)⟩ trivial
    have hg1 := GrS.put hg0 hlow hgE hneE 3 (j : Int) ⟨10, tick, (-1), (j : Int), (-1), 0, 0, 0, 0⟩ rfl ⟨(okI_lit _), htk, (okI_lit _), (okI_of (m := 17) (by (try dsimp only); omega) (by (try dsimp only); omega) (by decide)), (okI_lit _), (okI_lit _), (okI_lit _), (okI_lit _), (okI_lit _)⟩ trivial
    have hg2 := GrS.put hg1 hlow hgE hneE 8 z ⟨10, tick, (-1), (j : Int), (-1), 0, 0, 0, z⟩ rfl ⟨(okI_lit _), htk, (okI_lit _), (okI_of (m := 17) (by (try dsimp only); omega) (by (try dsimp only); omega) (by decide)), (okI_lit _), (okI_lit _), (okI_lit _), (okI_lit _), (okI_of (m := 100) (by (try dsimp only); omega) (by (try dsimp only); omega) (by decide))⟩ trivial
    have hb9 := ((((H3.out _ GR.out.fr)).fr (fr_set _ ⟨gE, 0, none⟩ (.int .i64 10)) hne3).fr (fr_set _ ⟨gE, 3, none⟩ (.int .i64 (j : Int))) hne3).fr (fr_set _ ⟨gE, 8, none⟩ (.int .i64 z)) hne3
    have hT := EnTo.fill (w := w) (k0 := k) (d := 4) (q := g3) hg2 hbase hlow hgE hg3 hne3t ⟨by omega, by omega, fun h => by have := j3 h; omega⟩
    have hT8 := en_fill (q := g3) ⟨10, tick, (-1), (j : Int), (-1), 0, 0, 0, z⟩ rfl hb9
    have h3f := H3.out _ GR.out.fr
    obtain ⟨y0, y1, y2, y3, y4, y5, y6, y7, y8⟩ := en_cells (e := ⟨0, 0, 0, 0, 0, 0, 0, 0, 0⟩) h3f
    simp only at y0 y1 y2 y3 y4 y5 y6 y7 y8
    have q0 := h3f.frozen 0
    have q1 := h3f.frozen 1
    have q2 := h3f.frozen 2
    have q3 := h3f.frozen 3
    have q4 := h3f.frozen 4
    have q5 := h3f.frozen 5
    have q6 := h3f.frozen 6
    have q7 := h3f.frozen 7
    have q8 := h3f.frozen 8
    obtain ⟨m0, m1, m2, m3, m4, m5, m6, m7, m8⟩ := en_cells GR.out.eb
    simp only at m0 m1 m2 m3 m4 m5 m6 m7 m8
    have r0 := GR.out.eb.frozen
    clear hb9 h3f hg0 hg1 hg2
    have HT := Lib.hid hT
    have HT8 := Lib.hid hT8
    clear hT hT8
    go_wp2_with fail
    exact bodyPost_ret (v := .agg (EnArr ⟨10, tick, (-1), (j : Int), (-1), 0, 0, 0, z⟩)) (platformm_results ⟨10, tick, (-1), (j : Int), (-1), 0, 0, 0, z⟩ g3 _ _ HT8.out rfl) rfl HT.out
  · go_wp2_with fail
    refine (next_any GR.out.tp (by omega) _ (by omega) (by omega)).mono ?_
    rintro r v ⟨z, rfl, z1, z2, k3, j7, j8, j9, hT, hF⟩
    replace GR := Lib.hid (GR.out.tape hT hF hneE)
    clear hT hF
    clear e0 e1 e2 e3 e4 e5 e6 e7 e8 e9 s0 s1 s2 s3 s4 s5 s6 s7 x0 x1 x2 x3
    obtain ⟨⟨e0, e1, e2, e3, e4, e5, e6, e7, e8, e9⟩, ⟨s0, s1, s2, s3, s4, s5, s6, s7⟩⟩ := HKA.out _ GR.out.fr
    obtain ⟨x0, x1, x2, x3⟩ := HX.out _ GR.out.fr
    have hg0 := GrS.put GR.out hlow hgE hneE 0 10 ⟨10, tick, (-1), (-1), (-1), 0, 0, 0, 0⟩ rfl ⟨(okI_lit _), htk, (okI_lit _), (okI_lit _), (okI_lit _), (okI_lit _), (okI_lit _), (okI_lit _), (okI_lit _)⟩ trivial
    have hg1 := GrS.put hg0 hlow hgE hneE 3 (j : Int) ⟨10, tick, (-1), (j : Int), (-1), 0, 0, 0, 0⟩ rfl ⟨(okI_lit _), htk, (okI_lit _), (okI_of (m := 17) (by (try dsimp only); omega) (by (try dsimp only); omega) (by decide)), (okI_lit _), (okI_lit _), (okI_lit _), (okI_lit _), (okI_lit _)⟩ trivial
    have hg2 := GrS.put hg1 hlow hgE hneE 8 z ⟨10, tick, (-1), (j : Int), (-1), 0, 0, 0, z⟩ rfl ⟨(okI_lit _), htk, (okI_lit _), (okI_of (m := 17) (by (try dsimp only); omega) (by (try dsimp only); omega) (by decide)), (okI_lit _), (okI_lit _), (okI_lit _), (okI_lit _), (okI_of (m := 100) (by (try dsimp only); omega) (by (try dsimp only); omega) (by decide))⟩ trivial
    have hb9 := ((((H3.out _ GR.out.fr)).fr (fr_set _ ⟨gE, 0, none⟩ (.int .i64 10)) hne3).fr (fr_set _ ⟨gE, 3, none⟩ (.int .i64 (j : Int))) hne3).fr (fr_set _ ⟨gE, 8, none⟩ (.int .i64 z)) hne3
    have hT := EnTo.fill (w := w) (k0 := k) (d := 4) (q := g3) hg2 hbase hlow hgE hg3 hne3t ⟨by omega, by omega, fun h => by have := j3 h; omega⟩
    have hT8 := en_fill (q := g3) ⟨10, tick, (-1), (j : Int), (-1), 0, 0, 0, z⟩ rfl hb9
    have h3f := H3.out _ GR.out.fr
    obtain ⟨y0, y1, y2, y3, y4, y5, y6, y7, y8⟩ := en_cells (e := ⟨0, 0, 0, 0, 0, 0, 0, 0, 0⟩) h3f
    simp only at y0 y1 y2 y3 y4 y5 y6 y7 y8
    have q0 := h3f.frozen 0
    have q1 := h3f.frozen 1
    have q2 := h3f.frozen 2
    have q3 := h3f.frozen 3
    have q4 := h3f.frozen 4
    have q5 := h3f.frozen 5
    have q6 := h3f.frozen 6
    have q7 := h3f.frozen 7
    have q8 := h3f.frozen 8
    obtain ⟨m0, m1, m2, m3, m4, m5, m6, m7, m8⟩ := en_cells GR.out.eb
    simp only at m0 m1 m2 m3 m4 m5 m6 m7 m8
    have r0 := GR.out.eb.frozen
    clear hb9 h3f hg0 hg1 hg2
    have HT := Lib.hid hT
    have HT8 := Lib.hid hT8
    clear hT hT8
    go_wp2_with fail
    exact bodyPost_ret (v := .agg (EnArr ⟨10, tick, (-1), (j : Int), (-1), 0, 0, 0, z⟩)) (platformm_results ⟨10, tick, (-1), (j : Int), (-1), 0, 0, 0, z⟩ g3 _ _ HT8.out rfl) rfl HT.out
  · go_wp2_with fail
    refine (next_any GR.out.tp (by omega) _ (by omega) (by omega)).mono ?_
    rintro r v ⟨z, rfl, z1, z2, k3, j7, j8, j9, hT, hF⟩
    replace GR := Lib.hid (GR.out.tape hT hF hneE)
    clear hT hF
    clear e0 e1 e2 e3 e4 e5 e6 e7 e8 e9 s0 s1 s2 s3 s4 s5 s6 s7 x0 x1 x2 x3
    obtain ⟨⟨e0, e1, e2, e3, e4, e5, e6, e7, e8, e9⟩, ⟨s0, s1, s2, s3, s4, s5, s6, s7⟩⟩ := HKA.out _ GR.out.fr
    obtain ⟨x0, x1, x2, x3⟩ := HX.out _ GR.out.fr
    have hg0 := GrS.put GR.out hlow hgE hneE 0 10 ⟨10, tick, (-1), (-1), (-1), 0, 0, 0, 0⟩ rfl ⟨(okI_lit _), htk, (okI_lit _), (okI_lit _), (okI_lit _), (okI_lit _), (okI_lit _), (okI_lit _), (okI_lit _)⟩ trivial
    have hg1 := GrS.put hg0 hlow hgE hneE 3 (j : Int) ⟨10, tick, (-1), (j : Int), (-1), 0, 0, 0, 0⟩ rfl ⟨(okI_lit _), htk, (okI_lit _), (okI_of (m := 17) (by (try dsimp only); omega) (by (try dsimp only); omega) (by decide)), (okI_lit _), (okI_lit _), (okI_lit _), (okI_lit _), (okI_lit _)⟩ trivial
    have hg2 := GrS.put hg1 hlow hgE hneE 8 z ⟨10, tick, (-1), (j : Int), (-1), 0, 0, 0, z⟩ rfl ⟨(okI_lit _), htk, (okI_lit _), (okI_of (m := 17) (by (try dsimp only); omega) (by (try dsimp only); omega) (by decide)), (okI_lit _), (okI_lit _), (okI_lit _), (okI_lit _), (okI_of (m := 100) (by (try dsimp only); omega) (by (try dsimp only); omega) (by decide))⟩ trivial
    have hb9 := ((((H3.out _ GR.out.fr)).fr (fr_set _ ⟨gE, 0, none⟩ (.int .i64 10)) hne3).fr (fr_set _ ⟨gE, 3, none⟩ (.int .i64 (j : Int))) hne3).fr (fr_set _ ⟨gE, 8, none⟩ (.int .i64 z)) hne3
    have hT := EnTo.fill (w := w) (k0 := k) (d := 4) (q := g3) hg2 hbase hlow hgE hg3 hne3t ⟨by omega, by omega, fun h => by have := j3 h; omega⟩
    have hT8 := en_fill (q := g3) ⟨10, tick, (-1), (j : Int), (-1), 0, 0, 0, z⟩ rfl hb9
    have h3f := H3.out _ GR.out.fr
    obtain ⟨y0, y1, y2, y3, y4, y5, y6, y7, y8⟩ := en_cells (e := ⟨0, 0, 0, 0, 0, 0, 0, 0, 0⟩) h3f
    simp only at y0 y1 y2 y3 y4 y5 y6 y7 y8
    have q0 := h3f.frozen 0
    have q1 := h3f.frozen 1
    have q2 := h3f.frozen 2
    have q3 := h3f.frozen 3
    have q4 := h3f.frozen 4
    have q5 := h3f.frozen 5
    have q6 := h3f.frozen 6
    have q7 := h3f.frozen 7
    have q8 := h3f.frozen 8
    obtain ⟨m0, m1, m2, m3, m4, m5, m6, m7, m8⟩ := en_cells GR.out.eb
    simp only at m0 m1 m2 m3 m4 m5 m6 m7 m8
    have r0 := GR.out.eb.frozen
    clear hb9 h3f hg0 hg1 hg2
    have HT := Lib.hid hT
    have HT8 := Lib.hid hT8
    clear hT hT8
    go_wp2_with fail
    exact bodyPost_ret (v := .agg (EnArr ⟨10, tick, (-1), (j : Int), (-1), 0, 0, 0, z⟩)) (platformm_results ⟨10, tick, (-1), (j : Int), (-1), 0, 0, 0, z⟩ g3 _ _ HT8.out rfl) rfl HT.out
  · obtain ⟨m0, m1, m2, m3, m4, m5, m6, m7, m8⟩ := en_cells GR.out.eb
    simp only at m0 m1 m2 m3 m4 m5 m6 m7 m8
    have r0 := GR.out.eb.frozen
    go_upto_region 17 with fail
    go_cut [] from 60 to 65 (fun wx => GrS w6 t gE A nl cp (fun _ => True) wx k2 ⟨11, tick, (-1), (j : Int), (-1), 0, 0, 0, (wa : Int)⟩)
    case first =>
      go_region
      go_wp2_with fail
      go_meet
      have hg0 := GrS.put GR.out hlow hgE hneE 0 11 ⟨11, tick, (-1), (-1), (-1), 0, 0, 0, 0⟩ rfl ⟨(okI_lit _), htk, (okI_lit _), (okI_lit _), (okI_lit _), (okI_lit _), (okI_lit _), (okI_lit _), (okI_lit _)⟩ trivial
      have hg1 := GrS.put hg0 hlow hgE hneE 3 (j : Int) ⟨11, tick, (-1), (j : Int), (-1), 0, 0, 0, 0⟩ rfl ⟨(okI_lit _), htk, (okI_lit _), (okI_of (m := 17) (by (try dsimp only); omega) (by (try dsimp only); omega) (by decide)), (okI_lit _), (okI_lit _), (okI_lit _), (okI_lit _), (okI_lit _)⟩ trivial
      have hg2 := GrS.put hg1 hlow hgE hneE 8 (wa : Int) ⟨11, tick, (-1), (j : Int), (-1), 0, 0, 0, (wa : Int)⟩ rfl ⟨(okI_lit _), htk, (okI_lit _), (okI_of (m := 17) (by (try dsimp only); omega) (by (try dsimp only); omega) (by decide)), (okI_lit _), (okI_lit _), (okI_lit _), (okI_lit _), (okI_of (m := 17) (by (try dsimp only); omega) (by (try dsimp only); omega) (by decide))⟩ trivial
      exact GrS.frNo hg2 (Fr.refl No _).drew
    replace GR := Lib.hid hcut
    clear hcut m0 m1 m2 m3 m4 m5 m6 m7 m8 r0
    clear e0 e1 e2 e3 e4 e5 e6 e7 e8 e9 s0 s1 s2 s3 s4 s5 s6 s7 x0 x1 x2 x3
    obtain ⟨⟨e0, e1, e2, e3, e4, e5, e6, e7, e8, e9⟩, ⟨s0, s1, s2, s3, s4, s5, s6, s7⟩⟩ := HKA.out _ GR.out.fr
    obtain ⟨x0, x1, x2, x3⟩ := HX.out _ GR.out.fr
    go_wp2_with fail
    refine (next_any GR.out.tp (by omega) _ (by omega) (by omega)).mono ?_
    rintro r v ⟨z, rfl, z1, z2, k3, j7, j8, j9, hT, hF⟩
    replace GR := Lib.hid (GR.out.tape hT hF hneE)
    clear hT hF
    clear e0 e1 e2 e3 e4 e5 e6 e7 e8 e9 s0 s1 s2 s3 s4 s5 s6 s7 x0 x1 x2 x3
    obtain ⟨⟨e0, e1, e2, e3, e4, e5, e6, e7, e8, e9⟩, ⟨s0, s1, s2, s3, s4, s5, s6, s7⟩⟩ := HKA.out _ GR.out.fr
    obtain ⟨x0, x1, x2, x3⟩ := HX.out _ GR.out.fr
    have hg0 := GrS.put GR.out hlow hgE hneE 1 (wrap64 (tick + z)) ⟨11, (wrap64 (tick + z)), (-1), (j : Int), (-1), 0, 0, 0, (wa : Int)⟩ rfl ⟨(okI_lit _), (ok64 _), (okI_lit _), (okI_of (m := 17) (by (try dsimp only); omega) (by (try dsimp only); omega) (by decide)), (okI_lit _), (okI_lit _), (okI_lit _), (okI_lit _), (okI_of (m := 17) (by (try dsimp only); omega) (by (try dsimp only); omega) (by decide))⟩ trivial
    have hb9 := ((H3.out _ GR.out.fr)).fr (fr_set _ ⟨gE, 1, none⟩ (.int .i64 (wrap64 (tick + z)))) hne3
    have hT := EnTo.fill (w := w) (k0 := k) (d := 4) (q := g3) hg0 hbase hlow hgE hg3 hne3t ⟨by omega, by omega, fun h => by have := j3 h; omega⟩
    have hT8 := en_fill (q := g3) ⟨11, (wrap64 (tick + z)), (-1), (j : Int), (-1), 0, 0, 0, (wa : Int)⟩ rfl hb9
    have h3f := H3.out _ GR.out.fr
    obtain ⟨y0, y1, y2, y3, y4, y5, y6, y7, y8⟩ := en_cells (e := ⟨0, 0, 0, 0, 0, 0, 0, 0, 0⟩) h3f
    simp only at y0 y1 y2 y3 y4 y5 y6 y7 y8
    have q0 := h3f.frozen 0
    have q1 := h3f.frozen 1
    have q2 := h3f.frozen 2
    have q3 := h3f.frozen 3
    have q4 := h3f.frozen 4
    have q5 := h3f.frozen 5
    have q6 := h3f.frozen 6
    have q7 := h3f.frozen 7
    have q8 := h3f.frozen 8
    obtain ⟨m0, m1, m2, m3, m4, m5, m6, m7, m8⟩ := en_cells GR.out.eb
    simp only at m0 m1 m2 m3 m4 m5 m6 m7 m8
    have r0 := GR.out.eb.frozen
    clear hb9 h3f hg0
    have HT := Lib.hid hT
    have HT8 := Lib.hid hT8
    clear hT hT8
    go_wp2_with fail
    exact bodyPost_ret (v := .agg (EnArr ⟨11, (wrap64 (tick + z)), (-1), (j : Int), (-1), 0, 0, 0, (wa : Int)⟩)) (platformm_results ⟨11, (wrap64 (tick + z)), (-1), (j : Int), (-1), 0, 0, 0, (wa : Int)⟩ g3 _ _ HT8.out rfl) rfl HT.out
  · obtain ⟨m0, m1, m2, m3, m4, m5, m6, m7, m8⟩ := en_cells GR.out.eb
    simp only at m0 m1 m2 m3 m4 m5 m6 m7 m8
    have r0 := GR.out.eb.frozen
    go_upto_region 17 with fail
    go_cut [] from 60 to 65 (fun wx => GrS w6 t gE A nl cp (fun _ => True) wx k2 ⟨11, tick, (-1), (j : Int), (-1), 0, 0, 0, (wa : Int)⟩)
    case first =>
      go_region
      go_wp2_with fail
      go_meet
      have hg0 := GrS.put GR.out hlow hgE hneE 0 11 ⟨11, tick, (-1), (-1), (-1), 0, 0, 0, 0⟩ rfl ⟨(okI_lit _), htk, (okI_lit _), (okI_lit _), (okI_lit _), (okI_lit _), (okI_lit _), (okI_lit _), (okI_lit _)⟩ trivial
      have hg1 := GrS.put hg0 hlow hgE hneE 3 (j : Int) ⟨11, tick, (-1), (j : Int), (-1), 0, 0, 0, 0⟩ rfl ⟨(okI_lit _), htk, (okI_lit _), (okI_of (m := 17) (by (try dsimp only); omega) (by (try dsimp only); omega) (by decide)), (okI_lit _), (okI_lit _), (okI_lit _), (okI_lit _), (okI_lit _)⟩ trivial
      have hg2 := GrS.put hg1 hlow hgE hneE 8 (wa : Int) ⟨11, tick, (-1), (j : Int), (-1), 0, 0, 0, (wa : Int)⟩ rfl ⟨(okI_lit _), htk, (okI_lit _), (okI_of (m := 17) (by (try dsimp only); omega) (by (try dsimp only); omega) (by decide)), (okI_lit _), (okI_lit _), (okI_lit _), (okI_lit _), (okI_of (m := 17) (by (try dsimp only); omega) (by (try dsimp only); omega) (by decide))⟩ trivial
      exact GrS.frNo hg2 (Fr.refl No _).drew
    replace GR := Lib.hid hcut
    clear hcut m0 m1 m2 m3 m4 m5 m6 m7 m8 r0
    clear e0 e1 e2 e3 e4 e5 e6 e7 e8 e9 s0 s1 s2 s3 s4 s5 s6 s7 x0 x1 x2 x3
    obtain ⟨⟨e0, e1, e2, e3, e4, e5, e6, e7, e8, e9⟩, ⟨s0, s1, s2, s3, s4, s5, s6, s7⟩⟩ := HKA.out _ GR.out.fr
    obtain ⟨x0, x1, x2, x3⟩ := HX.out _ GR.out.fr
    go_wp2_with fail
    refine (next_any GR.out.tp (by omega) _ (by omega) (by omega)).mono ?_
    rintro r v ⟨z, rfl, z1, z2, k3, j7, j8, j9, hT, hF⟩
    replace GR := Lib.hid (GR.out.tape hT hF hneE)
    clear hT hF
    clear e0 e1 e2 e3 e4 e5 e6 e7 e8 e9 s0 s1 s2 s3 s4 s5 s6 s7 x0 x1 x2 x3
    obtain ⟨⟨e0, e1, e2, e3, e4, e5, e6, e7, e8, e9⟩, ⟨s0, s1, s2, s3, s4, s5, s6, s7⟩⟩ := HKA.out _ GR.out.fr
    obtain ⟨x0, x1, x2, x3⟩ := HX.out _ GR.out.fr
    have hg0 := GrS.put GR.out hlow hgE hneE 1 (wrap64 (tick + z)) ⟨11, (wrap64 (tick + z)), (-1), (j : Int), (-1), 0, 0, 0, (wa : Int)⟩ rfl ⟨(okI_lit _), (ok64 _), (okI_lit _), (okI_of (m := 17) (by (try dsimp only); omega) (by (try dsimp only); omega) (by decide)), (okI_lit _), (okI_lit _), (okI_lit _), (okI_lit _), (okI_of (m := 17) (by (try dsimp only); omega) (by (try dsimp only); omega) (by decide))⟩ trivial
    have hb9 := ((H3.out _ GR.out.fr)).fr (fr_set _ ⟨gE, 1, none⟩ (.int .i64 (wrap64 (tick + z)))) hne3
    have hT := EnTo.fill (w := w) (k0 := k) (d := 4) (q := g3) hg0 hbase hlow hgE hg3 hne3t ⟨by omega, by omega, fun h => by have := j3 h; omega⟩
    have hT8 := en_fill (q := g3) ⟨11, (wrap64 (tick + z)), (-1), (j : Int), (-1), 0, 0, 0, (wa : Int)⟩ rfl hb9
    have h3f := H3.out _ GR.out.fr
    obtain ⟨y0, y1, y2, y3, y4, y5, y6, y7, y8⟩ := en_cells (e := ⟨0, 0, 0, 0, 0, 0, 0, 0, 0⟩) h3f
    simp only at y0 y1 y2 y3 y4 y5 y6 y7 y8
    have q0 := h3f.frozen 0
    have q1 := h3f.frozen 1
    have q2 := h3f.frozen 2
    have q3 := h3f.frozen 3
    have q4 := h3f.frozen 4
    have q5 := h3f.frozen 5
    have q6 := h3f.frozen 6
    have q7 := h3f.frozen 7
    have q8 := h3f.frozen 8
    obtain ⟨m0, m1, m2, m3, m4, m5, m6, m7, m8⟩ := en_cells GR.out.eb
    simp only at m0 m1 m2 m3 m4 m5 m6 m7 m8
    have r0 := GR.out.eb.frozen
    clear hb9 h3f hg0
    have HT := Lib.hid hT
    have HT8 := Lib.hid hT8
    clear hT hT8
    go_wp2_with fail
    exact bodyPost_ret (v := .agg (EnArr ⟨11, (wrap64 (tick + z)), (-1), (j : Int), (-1), 0, 0, 0, (wa : Int)⟩)) (platformm_results ⟨11, (wrap64 (tick + z)), (-1), (j : Int), (-1), 0, 0, 0, (wa : Int)⟩ g3 _ _ HT8.out rfl) rfl HT.out
  · obtain ⟨m0, m1, m2, m3, m4, m5, m6, m7, m8⟩ := en_cells GR.out.eb
    simp only at m0 m1 m2 m3 m4 m5 m6 m7 m8
    have r0 := GR.out.eb.frozen
    go_upto_region 17 with fail
    go_cut [] from 60 to 65 (fun wx => GrS w6 t gE A nl cp (fun _ => True) wx k2 ⟨11, tick, (-1), (j : Int), (-1), 0, 0, 0, (wa : Int)⟩)
    case first =>
      go_region
      go_wp2_with fail
      go_meet
      have hg0 := GrS.put GR.out hlow hgE hneE 0 11 ⟨11, tick, (-1), (-1), (-1), 0, 0, 0, 0⟩ rfl ⟨(okI_lit _), htk, (okI_lit _), (okI_lit _), (okI_lit _), (okI_lit _), (okI_lit _), (okI_lit _), (okI_lit _)⟩ trivial
      have hg1 := GrS.put hg0 hlow hgE hneE 3 (j : Int) ⟨11, tick, (-1), (j : Int), (-1), 0, 0, 0, 0⟩ rfl ⟨(okI_lit _), htk, (okI_lit _), (okI_of (m := 17) (by (try dsimp only); omega) (by (try dsimp only); omega) (by decide)), (okI_lit _), (okI_lit _), (okI_lit _), (okI_lit _), (okI_lit _)⟩ trivial
      have hg2 := GrS.put hg1 hlow hgE hneE 8 (wa : Int) ⟨11, tick, (-1), (j : Int), (-1), 0, 0, 0, (wa : Int)⟩ rfl ⟨(okI_lit _), htk, (okI_lit _), (okI_of (m := 17) (by (try dsimp only); omega) (by (try dsimp only); omega) (by decide)), (okI_lit _), (okI_lit _), (okI_lit _), (okI_lit _), (okI_of (m := 17) (by (try dsimp only); omega) (by (try dsimp only); omega) (by decide))⟩ trivial
      exact GrS.frNo hg2 (Fr.refl No _).drew
    replace GR := Lib.hid hcut
    clear hcut m0 m1 m2 m3 m4 m5 m6 m7 m8 r0
    clear e0 e1 e2 e3 e4 e5 e6 e7 e8 e9 s0 s1 s2 s3 s4 s5 s6 s7 x0 x1 x2 x3
    obtain ⟨⟨e0, e1, e2, e3, e4, e5, e6, e7, e8, e9⟩, ⟨s0, s1, s2, s3, s4, s5, s6, s7⟩⟩ := HKA.out _ GR.out.fr
    obtain ⟨x0, x1, x2, x3⟩ := HX.out _ GR.out.fr
    go_wp2_with fail
    refine (next_any GR.out.tp (by omega) _ (by omega) (by omega)).mono ?_
    rintro r v ⟨z, rfl, z1, z2, k3, j7, j8, j9, hT, hF⟩
    replace GR := Lib.hid (GR.out.tape hT hF hneE)
    clear hT hF
    clear e0 e1 e2 e3 e4 e5 e6 e7 e8 e9 s0 s1 s2 s3 s4 s5 s6 s7 x0 x1 x2 x3
    obtain ⟨⟨e0, e1, e2, e3, e4, e5, e6, e7, e8, e9⟩, ⟨s0, s1, s2, s3, s4, s5, s6, s7⟩⟩ := HKA.out _ GR.out.fr
    obtain ⟨x0, x1, x2, x3⟩ := HX.out _ GR.out.fr
    have hg0 := GrS.put GR.out hlow hgE hneE 1 (wrap64 (tick + z)) ⟨11, (wrap64 (tick + z)), (-1), (j : Int), (-1), 0, 0, 0, (wa : Int)⟩ rfl ⟨(okI_lit _), (ok64 _), (okI_lit _), (okI_of (m := 17) (by (try dsimp only); omega) (by (try dsimp only); omega) (by decide)), (okI_lit _), (okI_lit _), (okI_lit _), (okI_lit _), (okI_of (m := 17) (by (try dsimp only); omega) (by (try dsimp only); omega) (by decide))⟩ trivial
    have hb9 := ((H3.out _ GR.out.fr)).fr (fr_set _ ⟨gE, 1, none⟩ (.int .i64 (wrap64 (tick + z)))) hne3
    have hT := EnTo.fill (w := w) (k0 := k) (d := 4) (q := g3) hg0 hbase hlow hgE hg3 hne3t ⟨by omega, by omega, fun h => by have := j3 h; omega⟩
    have hT8 := en_fill (q := g3) ⟨11, (wrap64 (tick + z)), (-1), (j : Int), (-1), 0, 0, 0, (wa : Int)⟩ rfl hb9
    have h3f := H3.out _ GR.out.fr
    obtain ⟨y0, y1, y2, y3, y4, y5, y6, y7, y8⟩ := en_cells (e := ⟨0, 0, 0, 0, 0, 0, 0, 0, 0⟩) h3f
    simp only at y0 y1 y2 y3 y4 y5 y6 y7 y8
    have q0 := h3f.frozen 0
    have q1 := h3f.frozen 1
    have q2 := h3f.frozen 2
    have q3 := h3f.frozen 3
    have q4 := h3f.frozen 4
    have q5 := h3f.frozen 5
    have q6 := h3f.frozen 6
    have q7 := h3f.frozen 7
    have q8 := h3f.frozen 8
    obtain ⟨m0, m1, m2, m3, m4, m5, m6, m7, m8⟩ := en_cells GR.out.eb
    simp only at m0 m1 m2 m3 m4 m5 m6 m7 m8
    have r0 := GR.out.eb.frozen
    clear hb9 h3f hg0
    have HT := Lib.hid hT
    have HT8 := Lib.hid hT8
    clear hT hT8
    go_wp2_with fail
    exact bodyPost_ret (v := .agg (EnArr ⟨11, (wrap64 (tick + z)), (-1), (j : Int), (-1), 0, 0, 0, (wa : Int)⟩)) (platformm_results ⟨11, (wrap64 (tick + z)), (-1), (j : Int), (-1), 0, 0, 0, (wa : Int)⟩ g3 _ _ HT8.out rfl) rfl HT.out
  · obtain ⟨m0, m1, m2, m3, m4, m5, m6, m7, m8⟩ := en_cells GR.out.eb
    simp only at m0 m1 m2 m3 m4 m5 m6 m7 m8
    have r0 := GR.out.eb.frozen
    go_upto_region 20 with fail
    go_cut [] from 75 to 78 (fun wx => GrS w6 t gE A nl cp (fun _ => True) wx k2 ⟨12, tick, (-1), (-1), (-1), 0, 0, 0, (rn : Int)⟩)
    case first =>
      go_region
      go_wp2_with fail
      go_meet
      have hg0 := GrS.put GR.out hlow hgE hneE 0 12 ⟨12, tick, (-1), (-1), (-1), 0, 0, 0, 0⟩ rfl ⟨(okI_lit _), htk, (okI_lit _), (okI_lit _), (okI_lit _), (okI_lit _), (okI_lit _), (okI_lit _), (okI_lit _)⟩ trivial
      have hg1 := GrS.put hg0 hlow hgE hneE 8 (rn : Int) ⟨12, tick, (-1), (-1), (-1), 0, 0, 0, (rn : Int)⟩ rfl ⟨(okI_lit _), htk, (okI_lit _), (okI_lit _), (okI_lit _), (okI_lit _), (okI_lit _), (okI_lit _), (okI_of (m := 17) (by (try dsimp only); omega) (by (try dsimp only); omega) (by decide))⟩ trivial
      exact GrS.frNo hg1 (Fr.refl No _).drew
    replace GR := Lib.hid hcut
    clear hcut m0 m1 m2 m3 m4 m5 m6 m7 m8 r0
    clear e0 e1 e2 e3 e4 e5 e6 e7 e8 e9 s0 s1 s2 s3 s4 s5 s6 s7 x0 x1 x2 x3
    obtain ⟨⟨e0, e1, e2, e3, e4, e5, e6, e7, e8, e9⟩, ⟨s0, s1, s2, s3, s4, s5, s6, s7⟩⟩ := HKA.out _ GR.out.fr
    obtain ⟨x0, x1, x2, x3⟩ := HX.out _ GR.out.fr
    go_wp2_with fail
    refine (next_any GR.out.tp (by omega) _ (by omega) (by omega)).mono ?_
    rintro r v ⟨z, rfl, z1, z2, k3, j7, j8, j9, hT, hF⟩
    replace GR := Lib.hid (GR.out.tape hT hF hneE)
    clear hT hF
    clear e0 e1 e2 e3 e4 e5 e6 e7 e8 e9 s0 s1 s2 s3 s4 s5 s6 s7 x0 x1 x2 x3
    obtain ⟨⟨e0, e1, e2, e3, e4, e5, e6, e7, e8, e9⟩, ⟨s0, s1, s2, s3, s4, s5, s6, s7⟩⟩ := HKA.out _ GR.out.fr
    obtain ⟨x0, x1, x2, x3⟩ := HX.out _ GR.out.fr
    have hg0 := GrS.put GR.out hlow hgE hneE 1 (wrap64 (tick + z)) ⟨12, (wrap64 (tick + z)), (-1), (-1), (-1), 0, 0, 0, (rn : Int)⟩ rfl ⟨(okI_lit _), (ok64 _), (okI_lit _), (okI_lit _), (okI_lit _), (okI_lit _), (okI_lit _), (okI_lit _), (okI_of (m := 17) (by (try dsimp only); omega) (by (try dsimp only); omega) (by decide))⟩ trivial
    have hb9 := ((H3.out _ GR.out.fr)).fr (fr_set _ ⟨gE, 1, none⟩ (.int .i64 (wrap64 (tick + z)))) hne3
    have hT := EnTo.fill (w := w) (k0 := k) (d := 4) (q := g3) hg0 hbase hlow hgE hg3 hne3t ⟨by omega, by omega, fun h => by have := j3 h; omega⟩
    have hT8 := en_fill (q := g3) ⟨12, (wrap64 (tick + z)), (-1), (-1), (-1), 0, 0, 0, (rn : Int)⟩ rfl hb9
    have h3f := H3.out _ GR.out.fr
    obtain ⟨y0, y1, y2, y3, y4, y5, y6, y7, y8⟩ := en_cells (e := ⟨0, 0, 0, 0, 0, 0, 0, 0, 0⟩) h3f
    simp only at y0 y1 y2 y3 y4 y5 y6 y7 y8
    have q0 := h3f.frozen 0
    have q1 := h3f.frozen 1
    have q2 := h3f.frozen 2
    have q3 := h3f.frozen 3
    have q4 := h3f.frozen 4
    have q5 := h3f.frozen 5
    have q6 := h3f.frozen 6
    have q7 := h3f.frozen 7
    have q8 := h3f.frozen 8
    obtain ⟨m0, m1, m2, m3, m4, m5, m6, m7, m8⟩ := en_cells GR.out.eb
    simp only at m0 m1 m2 m3 m4 m5 m6 m7 m8
    have r0 := GR.out.eb.frozen
    clear hb9 h3f hg0
    have HT := Lib.hid hT
    have HT8 := Lib.hid hT8
    clear hT hT8
    go_wp2_with fail
    exact bodyPost_ret (v := .agg (EnArr ⟨12, (wrap64 (tick + z)), (-1), (-1), (-1), 0, 0, 0, (rn : Int)⟩)) (platformm_results ⟨12, (wrap64 (tick + z)), (-1), (-1), (-1), 0, 0, 0, (rn : Int)⟩ g3 _ _ HT8.out rfl) rfl HT.out
  · go_wp2_with fail
    refine (next_any GR.out.tp (by omega) _ (by omega) (by omega)).mono ?_
    rintro r v ⟨z, rfl, z1, z2, k3, j7, j8, j9, hT, hF⟩
    replace GR := Lib.hid (GR.out.tape hT hF hneE)
    clear hT hF
    clear e0 e1 e2 e3 e4 e5 e6 e7 e8 e9 s0 s1 s2 s3 s4 s5 s6 s7 x0 x1 x2 x3
    obtain ⟨⟨e0, e1, e2, e3, e4, e5, e6, e7, e8, e9⟩, ⟨s0, s1, s2, s3, s4, s5, s6, s7⟩⟩ := HKA.out _ GR.out.fr
    obtain ⟨x0, x1, x2, x3⟩ := HX.out _ GR.out.fr
    obtain ⟨m0, m1, m2, m3, m4, m5, m6, m7, m8⟩ := en_cells GR.out.eb
    simp only at m0 m1 m2 m3 m4 m5 m6 m7 m8
    have r0 := GR.out.eb.frozen
    go_upto_region 24 with fail
    have hg0 := GrS.put GR.out hlow hgE hneE 0 13 ⟨13, tick, (-1), (-1), (-1), 0, 0, 0, 0⟩ rfl ⟨(okI_lit _), htk, (okI_lit _), (okI_lit _), (okI_lit _), (okI_lit _), (okI_lit _), (okI_lit _), (okI_lit _)⟩ trivial
    have hg1 := GrS.put hg0 hlow hgE hneE 4 z ⟨13, tick, (-1), (-1), z, 0, 0, 0, 0⟩ rfl ⟨(okI_lit _), htk, (okI_lit _), (okI_lit _), (okI_of (m := 100) (by (try dsimp only); omega) (by (try dsimp only); omega) (by decide)), (okI_lit _), (okI_lit _), (okI_lit _), (okI_lit _)⟩ trivial
    have hg2 := GrS.put hg1 hlow hgE hneE 8 1 ⟨13, tick, (-1), (-1), z, 0, 0, 0, 1⟩ rfl ⟨(okI_lit _), htk, (okI_lit _), (okI_lit _), (okI_of (m := 100) (by (try dsimp only); omega) (by (try dsimp only); omega) (by decide)), (okI_lit _), (okI_lit _), (okI_lit _), (okI_lit _)⟩ trivial
    generalize (World.setCell (World.setCell (World.setCell v ⟨gE, 0, none⟩ (.int .i64 13)) ⟨gE, 4, none⟩ (.int .i64 z)) ⟨gE, 8, none⟩ (.int .i64 1)) = w7 at *
    replace GR := Lib.hid hg2
    clear hg0 hg1 hg2 m0 m1 m2 m3 m4 m5 m6 m7 m8 r0
    clear e0 e1 e2 e3 e4 e5 e6 e7 e8 e9 s0 s1 s2 s3 s4 s5 s6 s7 x0 x1 x2 x3
    obtain ⟨⟨e0, e1, e2, e3, e4, e5, e6, e7, e8, e9⟩, ⟨s0, s1, s2, s3, s4, s5, s6, s7⟩⟩ := HKA.out _ GR.out.fr
    obtain ⟨x0, x1, x2, x3⟩ := HX.out _ GR.out.fr
    obtain ⟨m0, m1, m2, m3, m4, m5, m6, m7, m8⟩ := en_cells GR.out.eb
    simp only at m0 m1 m2 m3 m4 m5 m6 m7 m8
    have r0 := GR.out.eb.frozen
    go_wp2_with fail
    refine (has_q _ _ _).mono ?_
    rintro r v ⟨rfl, rfl⟩
    generalize hasV ev z = B
    rcases B with _ | _
    · clear m0 m1 m2 m3 m4 m5 m6 m7 m8 r0
      have hb9 := (H3.out _ GR.out.fr)
      have hT := EnTo.fill (w := w) (k0 := k) (d := 4) (q := g3) GR.out hbase hlow hgE hg3 hne3t ⟨by omega, by omega, fun h => by have := j3 h; omega⟩
      have hT8 := en_fill (q := g3) ⟨13, tick, (-1), (-1), z, 0, 0, 0, 1⟩ rfl hb9
      have h3f := H3.out _ GR.out.fr
      obtain ⟨y0, y1, y2, y3, y4, y5, y6, y7, y8⟩ := en_cells (e := ⟨0, 0, 0, 0, 0, 0, 0, 0, 0⟩) h3f
      simp only at y0 y1 y2 y3 y4 y5 y6 y7 y8
      have q0 := h3f.frozen 0
      have q1 := h3f.frozen 1
      have q2 := h3f.frozen 2
      have q3 := h3f.frozen 3
      have q4 := h3f.frozen 4
      have q5 := h3f.frozen 5
      have q6 := h3f.frozen 6
      have q7 := h3f.frozen 7
      have q8 := h3f.frozen 8
      obtain ⟨m0, m1, m2, m3, m4, m5, m6, m7, m8⟩ := en_cells GR.out.eb
      simp only at m0 m1 m2 m3 m4 m5 m6 m7 m8
      have r0 := GR.out.eb.frozen
      clear hb9 h3f
      have HT := Lib.hid hT
      have HT8 := Lib.hid hT8
      clear hT hT8
      go_wp2_with fail
      exact bodyPost_ret (v := .agg (EnArr ⟨13, tick, (-1), (-1), z, 0, 0, 0, 1⟩)) (platformm_results ⟨13, tick, (-1), (-1), z, 0, 0, 0, 1⟩ g3 _ _ HT8.out rfl) rfl HT.out
    · clear m0 m1 m2 m3 m4 m5 m6 m7 m8 r0
      have hg0 := GrS.put GR.out hlow hgE hneE 8 0 ⟨13, tick, (-1), (-1), z, 0, 0, 0, 0⟩ rfl ⟨(okI_lit _), htk, (okI_lit _), (okI_lit _), (okI_of (m := 100) (by (try dsimp only); omega) (by (try dsimp only); omega) (by decide)), (okI_lit _), (okI_lit _), (okI_lit _), (okI_lit _)⟩ trivial
      have hb9 := ((H3.out _ GR.out.fr)).fr (fr_set _ ⟨gE, 8, none⟩ (.int .i64 0)) hne3
      have hT := EnTo.fill (w := w) (k0 := k) (d := 4) (q := g3) hg0 hbase hlow hgE hg3 hne3t ⟨by omega, by omega, fun h => by have := j3 h; omega⟩
      have hT8 := en_fill (q := g3) ⟨13, tick, (-1), (-1), z, 0, 0, 0, 0⟩ rfl hb9
      have h3f := H3.out _ GR.out.fr
      obtain ⟨y0, y1, y2, y3, y4, y5, y6, y7, y8⟩ := en_cells (e := ⟨0, 0, 0, 0, 0, 0, 0, 0, 0⟩) h3f
      simp only at y0 y1 y2 y3 y4 y5 y6 y7 y8
      have q0 := h3f.frozen 0
      have q1 := h3f.frozen 1
      have q2 := h3f.frozen 2
      have q3 := h3f.frozen 3
      have q4 := h3f.frozen 4
      have q5 := h3f.frozen 5
      have q6 := h3f.frozen 6
      have q7 := h3f.frozen 7
      have q8 := h3f.frozen 8
      obtain ⟨m0, m1, m2, m3, m4, m5, m6, m7, m8⟩ := en_cells GR.out.eb
      simp only at m0 m1 m2 m3 m4 m5 m6 m7 m8
      have r0 := GR.out.eb.frozen
      clear hb9 h3f hg0
      have HT := Lib.hid hT
      have HT8 := Lib.hid hT8
      clear hT hT8
      go_wp2_with fail
      exact bodyPost_ret (v := .agg (EnArr ⟨13, tick, (-1), (-1), z, 0, 0, 0, 0⟩)) (platformm_results ⟨13, tick, (-1), (-1), z, 0, 0, 0, 0⟩ g3 _ _ HT8.out rfl) rfl HT.out
  · by_cases hq : lo < hi
    · have b4 : decide (lo < hi) = true := decide_eq_true hq
      have hg0 := GrS.put GR.out hlow hgE hneE 0 14 ⟨14, tick, (-1), (-1), (-1), 0, 0, 0, 0⟩ rfl ⟨(okI_lit _), htk, (okI_lit _), (okI_lit _), (okI_lit _), (okI_lit _), (okI_lit _), (okI_lit _), (okI_lit _)⟩ trivial
      have hg1 := GrS.put hg0 hlow hgE hneE 0 15 ⟨15, tick, (-1), (-1), (-1), 0, 0, 0, 0⟩ rfl ⟨(okI_lit _), htk, (okI_lit _), (okI_lit _), (okI_lit _), (okI_lit _), (okI_lit _), (okI_lit _), (okI_lit _)⟩ trivial
      have hb9 := (((H3.out _ GR.out.fr)).fr (fr_set _ ⟨gE, 0, none⟩ (.int .i64 14)) hne3).fr (fr_set _ ⟨gE, 0, none⟩ (.int .i64 15)) hne3
      have hT := EnTo.fill (w := w) (k0 := k) (d := 4) (q := g3) hg1 hbase hlow hgE hg3 hne3t ⟨by omega, by omega, fun h => by have := j3 h; omega⟩
      have hT8 := en_fill (q := g3) ⟨15, tick, (-1), (-1), (-1), 0, 0, 0, 0⟩ rfl hb9
      have h3f := H3.out _ GR.out.fr
      obtain ⟨y0, y1, y2, y3, y4, y5, y6, y7, y8⟩ := en_cells (e := ⟨0, 0, 0, 0, 0, 0, 0, 0, 0⟩) h3f
      simp only at y0 y1 y2 y3 y4 y5 y6 y7 y8
      have q0 := h3f.frozen 0
      have q1 := h3f.frozen 1
      have q2 := h3f.frozen 2
      have q3 := h3f.frozen 3
      have q4 := h3f.frozen 4
      have q5 := h3f.frozen 5
      have q6 := h3f.frozen 6
      have q7 := h3f.frozen 7
      have q8 := h3f.frozen 8
      obtain ⟨m0, m1, m2, m3, m4, m5, m6, m7, m8⟩ := en_cells GR.out.eb
      simp only at m0 m1 m2 m3 m4 m5 m6 m7 m8
      have r0 := GR.out.eb.frozen
      clear hb9 h3f hg0 hg1
      have HT := Lib.hid hT
      have HT8 := Lib.hid hT8
      clear hT hT8
      go_wp2_with fail
      exact bodyPost_ret (v := .agg (EnArr ⟨15, tick, (-1), (-1), (-1), 0, 0, 0, 0⟩)) (platformm_results ⟨15, tick, (-1), (-1), (-1), 0, 0, 0, 0⟩ g3 _ _ HT8.out rfl) rfl HT.out
    · have b4 : decide (lo < hi) = false := decide_eq_false hq
      have hg0 := GrS.put GR.out hlow hgE hneE 0 14 ⟨14, tick, (-1), (-1), (-1), 0, 0, 0, 0⟩ rfl ⟨(okI_lit _), htk, (okI_lit _), (okI_lit _), (okI_lit _), (okI_lit _), (okI_lit _), (okI_lit _), (okI_lit _)⟩ trivial
      have hb9 := ((H3.out _ GR.out.fr)).fr (fr_set _ ⟨gE, 0, none⟩ (.int .i64 14)) hne3
      have hT := EnTo.fill (w := w) (k0 := k) (d := 4) (q := g3) hg0 hbase hlow hgE hg3 hne3t ⟨by omega, by omega, fun h => by have := j3 h; omega⟩
      have hT8 := en_fill (q := g3) ⟨14, tick, (-1), (-1), (-1), 0, 0, 0, 0⟩ rfl hb9
      have h3f := H3.out _ GR.out.fr
      obtain ⟨y0, y1, y2, y3, y4, y5, y6, y7, y8⟩ := en_cells (e := ⟨0, 0, 0, 0, 0, 0, 0, 0, 0⟩) h3f
      simp only at y0 y1 y2 y3 y4 y5 y6 y7 y8
      have q0 := h3f.frozen 0
      have q1 := h3f.frozen 1
      have q2 := h3f.frozen 2
      have q3 := h3f.frozen 3
      have q4 := h3f.frozen 4
      have q5 := h3f.frozen 5
      have q6 := h3f.frozen 6
      have q7 := h3f.frozen 7
      have q8 := h3f.frozen 8
      obtain ⟨m0, m1, m2, m3, m4, m5, m6, m7, m8⟩ := en_cells GR.out.eb
      simp only at m0 m1 m2 m3 m4 m5 m6 m7 m8
      have r0 := GR.out.eb.frozen
      clear hb9 h3f hg0
      have HT := Lib.hid hT
      have HT8 := Lib.hid hT8
      clear hT hT8
      go_wp2_with fail
      exact bodyPost_ret (v := .agg (EnArr ⟨14, tick, (-1), (-1), (-1), 0, 0, 0, 0⟩)) (platformm_results ⟨14, tick, (-1), (-1), (-1), 0, 0, 0, 0⟩ g3 _ _ HT8.out rfl) rfl HT.out
  · go_wp2_with fail
    refine (next_any GR.out.tp (by omega) _ (by decide) (by decide)).mono ?_
    rintro r v ⟨z, rfl, z1, z2, k3, j7, j8, j9, hT, hF⟩
    replace GR := Lib.hid (GR.out.tape hT hF hneE)
    clear hT hF
    clear e0 e1 e2 e3 e4 e5 e6 e7 e8 e9 s0 s1 s2 s3 s4 s5 s6 s7 x0 x1 x2 x3
    obtain ⟨⟨e0, e1, e2, e3, e4, e5, e6, e7, e8, e9⟩, ⟨s0, s1, s2, s3, s4, s5, s6, s7⟩⟩ := HKA.out _ GR.out.fr
    obtain ⟨x0, x1, x2, x3⟩ := HX.out _ GR.out.fr
    have hg0 := GrS.put GR.out hlow hgE hneE 8 z ⟨16, tick, (-1), (-1), (-1), 0, 0, 0, z⟩ rfl ⟨(okI_lit _), htk, (okI_lit _), (okI_lit _), (okI_lit _), (okI_lit _), (okI_lit _), (okI_lit _), (okI_of (m := 101) (by (try dsimp only); omega) (by (try dsimp only); omega) (by decide))⟩ trivial
    have hb9 := ((H3.out _ GR.out.fr)).fr (fr_set _ ⟨gE, 8, none⟩ (.int .i64 z)) hne3
    have hT := EnTo.fill (w := w) (k0 := k) (d := 4) (q := g3) hg0 hbase hlow hgE hg3 hne3t ⟨by omega, by omega, fun h => by have := j3 h; omega⟩
    have hT8 := en_fill (q := g3) ⟨16, tick, (-1), (-1), (-1), 0, 0, 0, z⟩ rfl hb9
    have h3f := H3.out _ GR.out.fr
    obtain ⟨y0, y1, y2, y3, y4, y5, y6, y7, y8⟩ := en_cells (e := ⟨0, 0, 0, 0, 0, 0, 0, 0, 0⟩) h3f
    simp only at y0 y1 y2 y3 y4 y5 y6 y7 y8
    have q0 := h3f.frozen 0
    have q1 := h3f.frozen 1
    have q2 := h3f.frozen 2
    have q3 := h3f.frozen 3
    have q4 := h3f.frozen 4
    have q5 := h3f.frozen 5
    have q6 := h3f.frozen 6
    have q7 := h3f.frozen 7
    have q8 := h3f.frozen 8
    obtain ⟨m0, m1, m2, m3, m4, m5, m6, m7, m8⟩ := en_cells GR.out.eb
    simp only at m0 m1 m2 m3 m4 m5 m6 m7 m8
    have r0 := GR.out.eb.frozen
    clear hb9 h3f hg0
    have HT := Lib.hid hT
    have HT8 := Lib.hid hT8
    clear hT hT8
    go_wp2_with fail
    exact bodyPost_ret (v := .agg (EnArr ⟨16, tick, (-1), (-1), (-1), 0, 0, 0, z⟩)) (platformm_results ⟨16, tick, (-1), (-1), (-1), 0, 0, 0, z⟩ g3 _ _ HT8.out rfl) rfl HT.out
end Go.Proofs.YtanhbebikcoliaaDoor
