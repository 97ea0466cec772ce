/-
  The turns of a tenant's state: standby.
-/
import Derived.Test.YtanhbebikcoliaaDoorStJ
namespace Go.Proofs.YtanhbebikcoliaaDoor
open Go.ChangeShapes Go.WideShapes Go.ChangeAt Go.RowKit
set_option linter.unusedVariables false
set_option maxRecDepth 100000 in
set_option maxHeartbeats 8000000 in
theorem standby_any {w : World} {G : Nat → Prop} {c : Cf} {s : St} (hc : ∀ W, Fr G w W → CfOk W c) (hs : StOk w G c s) (hG : ∀ i, G i → i < w.heap.size) (e : En) (ht1 : 0 ≤ e.tenant) (ht2 : e.tenant < c.nt) (hc1 : 0 ≤ e.cell) (hc2 : e.cell < c.nc) :
    Calls Tryd.prog 69 #[.agg c.arr, .agg s.arr, .agg (EnArr e)] w (StTo w G G c) := by
  obtain ⟨i, hi, hil⟩ := nat_of ht1 ht2
  obtain ⟨j, hj, hjl⟩ := nat_of hc1 hc2
  obtain ⟨bs, md, rn, wa, si, h2, -, hbs, -, -, hcr⟩ := hs.cell hjl
  obtain ⟨bt, t, hto, hrow⟩ := hs.row hil
  have h1 := hrow.bt
  have hgb := hrow.gb
  have hbt := hrow.lt
  have hst := fun W (hf : Fr No w W) => hs.frNo hf
  have hcf := hc
  have h := hc w (Fr.refl _ _)
  obtain ⟨bf, hbf⟩ := frozen_fix h s e.cell
  obtain ⟨bm, hbm⟩ := may_fix h e.tenant e.cell
  obtain ⟨b1, hb1⟩ := together_fix h e.cell t.hm
  obtain ⟨b2, hb2⟩ := together_fix h e.cell t.tg
  have hms := hs.ms
  have hmt := hs.mt
  obtain ⟨rg, nz, nc, nt, nv, le, bk, bz, bc, bv, cz, cc, ct, cv, At, Ar, nr, cr, Ao, no_, co, bl⟩ := c
  obtain ⟨tk, cn, Bt, mt, dt, Bs, ms, ds, pr, ev, lo, hi⟩ := s
  obtain ⟨kd, et, tn, cl, ot, ep, fm, un, n⟩ := e
  obtain ⟨pl, sh, hm, sb, nx, tg, tp, wc_, we, wv, wf, wu⟩ := t
  simp only at *
  subst hms hmt
  subst h1 h2 hi hj
  have hix : (0 : Int) ≤ (i : Int) ∧ (i : Int) < (mt : Int) := by omega
  have hjx : (0 : Int) ≤ (j : Int) ∧ (j : Int) < (ms : Int) := by omega
  clear hs h hc ht1 ht2 hc1 hc2
  obtain ⟨w1, hw1⟩ : ∃ w1, w1 = w.alloc (.cells #[.int .i64 (rg : Int), .slice (some ⟨bz, 0, none⟩) nz cz, .slice (some ⟨bc, 0, none⟩) ms cc, .slice At mt ct, .slice (some ⟨bv, 0, none⟩) nv cv, .slice Ar nr cr, .slice Ao no_ co, .int .i64 bl, .int .i64 (le : Int), .int .i64 (bk : Int)] TCf) := ⟨_, rfl⟩
  obtain ⟨g1, hg1⟩ : ∃ g1, g1 = w.heap.size := ⟨_, rfl⟩
  have hb1 : Blk w1 g1 TCf #[.int .i64 (rg : Int), .slice (some ⟨bz, 0, none⟩) nz cz, .slice (some ⟨bc, 0, none⟩) ms cc, .slice At mt ct, .slice (some ⟨bv, 0, none⟩) nv cv, .slice Ar nr cr, .slice Ao no_ co, .int .i64 bl, .int .i64 (le : Int), .int .i64 (bk : Int)] := by rw [hw1, hg1]; exact Blk.new _ _ _
  have f1 : Fr No w w1 := by rw [hw1]; exact fr_alloc _ _
  have hs1 : w1.heap.size = g1 + 1 := by rw [hw1, hg1]; simp
  obtain ⟨w2, hw2⟩ : ∃ w2, w2 = w1.alloc (.cells #[.int .i64 tk, .int .i64 cn, .slice (some ⟨bt, 0, none⟩) mt dt, .slice (some ⟨bs, 0, none⟩) ms ds, .int .i64 pr, .int .i64 ev, .int .i64 lo, .int .i64 hi] TSt) := ⟨_, rfl⟩
  obtain ⟨g2, hg2⟩ : ∃ g2, g2 = w1.heap.size := ⟨_, rfl⟩
  have hb2 : Blk w2 g2 TSt #[.int .i64 tk, .int .i64 cn, .slice (some ⟨bt, 0, none⟩) mt dt, .slice (some ⟨bs, 0, none⟩) ms ds, .int .i64 pr, .int .i64 ev, .int .i64 lo, .int .i64 hi] := by rw [hw2, hg2]; exact Blk.new _ _ _
  have f2 : Fr No w1 w2 := by rw [hw2]; exact fr_alloc _ _
  have hs2 : w2.heap.size = g2 + 1 := by rw [hw2, hg2]; simp
  obtain ⟨w3, hw3⟩ : ∃ w3, w3 = w2.alloc (.cells #[.int .i64 kd, .int .i64 et, .int .i64 (i : Int), .int .i64 (j : Int), .int .i64 ot, .int .i64 ep, .int .i64 fm, .int .i64 un, .int .i64 n] TEm) := ⟨_, rfl⟩
  obtain ⟨g3, hg3⟩ : ∃ g3, g3 = w2.heap.size := ⟨_, rfl⟩
  have hb3 : Blk w3 g3 TEm #[.int .i64 kd, .int .i64 et, .int .i64 (i : Int), .int .i64 (j : Int), .int .i64 ot, .int .i64 ep, .int .i64 fm, .int .i64 un, .int .i64 n] := by rw [hw3, hg3]; exact Blk.new _ _ _
  have f3 : Fr No w2 w3 := by rw [hw3]; exact fr_alloc _ _
  have hs3 : w3.heap.size = g3 + 1 := by rw [hw3, hg3]; simp
  obtain ⟨w4, hw4⟩ : ∃ w4, w4 = w3.alloc (.cells #[.int .i64 0, .int .i64 0, .slice none 0 0, .slice none 0 0, .int .i64 0, .int .i64 0, .int .i64 0, .int .i64 0] TSt) := ⟨_, rfl⟩
  obtain ⟨g4, hg4⟩ : ∃ g4, g4 = w3.heap.size := ⟨_, rfl⟩
  have hb4 : Blk w4 g4 TSt #[.int .i64 0, .int .i64 0, .slice none 0 0, .slice none 0 0, .int .i64 0, .int .i64 0, .int .i64 0, .int .i64 0] := by rw [hw4, hg4]; exact Blk.new _ _ _
  have f4 : Fr No w3 w4 := by rw [hw4]; exact fr_alloc _ _
  have hs4 : w4.heap.size = g4 + 1 := by rw [hw4, hg4]; simp
  have hB1 : Blk w4 g1 TCf #[.int .i64 (rg : Int), .slice (some ⟨bz, 0, none⟩) nz cz, .slice (some ⟨bc, 0, none⟩) ms cc, .slice At mt ct, .slice (some ⟨bv, 0, none⟩) nv cv, .slice Ar nr cr, .slice Ao no_ co, .int .i64 bl, .int .i64 (le : Int), .int .i64 (bk : Int)] := hb1.fr ((((Fr.refl No _).transNo f2).transNo f3).transNo f4) (fun h => h)
  have hB2 : Blk w4 g2 TSt #[.int .i64 tk, .int .i64 cn, .slice (some ⟨bt, 0, none⟩) mt dt, .slice (some ⟨bs, 0, none⟩) ms ds, .int .i64 pr, .int .i64 ev, .int .i64 lo, .int .i64 hi] := hb2.fr (((Fr.refl No _).transNo f3).transNo f4) (fun h => h)
  have hB3 : Blk w4 g3 TEm #[.int .i64 kd, .int .i64 et, .int .i64 (i : Int), .int .i64 (j : Int), .int .i64 ot, .int .i64 ep, .int .i64 fm, .int .i64 un, .int .i64 n] := hb3.fr ((Fr.refl No _).transNo f4) (fun h => h)
  have hB4 : Blk w4 g4 TSt #[.int .i64 0, .int .i64 0, .slice none 0 0, .slice none 0 0, .int .i64 0, .int .i64 0, .int .i64 0, .int .i64 0] := hb4.fr (Fr.refl No _) (fun h => h)
  have fW : Fr No w w4 := ((((Fr.refl No w).transNo f1).transNo f2).transNo f3).transNo f4
  have he2 : g2 = g1 + 1 := by rw [hg2, hs1]
  have he3 : g3 = g1 + 2 := by rw [hg3, hs2]; rw [he2]
  have he4 : g4 = g1 + 3 := by rw [hg4, hs3]; rw [he3]
  have hka : ∀ V, Fr No w4 V → (V.cell? ⟨g1, 0, none⟩ = some (.int .i64 (rg : Int)) ∧ V.cell? ⟨g1, 1, none⟩ = some (.slice (some ⟨bz, 0, none⟩) nz cz) ∧ V.cell? ⟨g1, 2, none⟩ = some (.slice (some ⟨bc, 0, none⟩) ms cc) ∧ V.cell? ⟨g1, 3, none⟩ = some (.slice At mt ct) ∧ V.cell? ⟨g1, 4, none⟩ = some (.slice (some ⟨bv, 0, none⟩) nv cv) ∧ V.cell? ⟨g1, 5, none⟩ = some (.slice Ar nr cr) ∧ V.cell? ⟨g1, 6, none⟩ = some (.slice Ao no_ co) ∧ V.cell? ⟨g1, 7, none⟩ = some (.int .i64 bl) ∧ V.cell? ⟨g1, 8, none⟩ = some (.int .i64 (le : Int)) ∧ V.cell? ⟨g1, 9, none⟩ = some (.int .i64 (bk : Int))) ∧ (V.cell? ⟨g2, 0, none⟩ = some (.int .i64 tk) ∧ V.cell? ⟨g2, 1, none⟩ = some (.int .i64 cn) ∧ V.cell? ⟨g2, 2, none⟩ = some (.slice (some ⟨bt, 0, none⟩) mt dt) ∧ V.cell? ⟨g2, 3, none⟩ = some (.slice (some ⟨bs, 0, none⟩) ms ds) ∧ V.cell? ⟨g2, 4, none⟩ = some (.int .i64 pr) ∧ V.cell? ⟨g2, 5, none⟩ = some (.int .i64 ev) ∧ V.cell? ⟨g2, 6, none⟩ = some (.int .i64 lo) ∧ V.cell? ⟨g2, 7, none⟩ = some (.int .i64 hi)) ∧ (V.cell? ⟨g3, 0, none⟩ = some (.int .i64 kd) ∧ V.cell? ⟨g3, 1, none⟩ = some (.int .i64 et) ∧ V.cell? ⟨g3, 2, none⟩ = some (.int .i64 (i : Int)) ∧ V.cell? ⟨g3, 3, none⟩ = some (.int .i64 (j : Int)) ∧ V.cell? ⟨g3, 4, none⟩ = some (.int .i64 ot) ∧ V.cell? ⟨g3, 5, none⟩ = some (.int .i64 ep) ∧ V.cell? ⟨g3, 6, none⟩ = some (.int .i64 fm) ∧ V.cell? ⟨g3, 7, none⟩ = some (.int .i64 un) ∧ V.cell? ⟨g3, 8, none⟩ = some (.int .i64 n)) ∧ (V.cell? ⟨g4, 0, none⟩ = some (.int .i64 0) ∧ V.cell? ⟨g4, 1, none⟩ = some (.int .i64 0) ∧ V.cell? ⟨g4, 2, none⟩ = some (.slice none 0 0) ∧ V.cell? ⟨g4, 3, none⟩ = some (.slice none 0 0) ∧ V.cell? ⟨g4, 4, none⟩ = some (.int .i64 0) ∧ V.cell? ⟨g4, 5, none⟩ = some (.int .i64 0) ∧ V.cell? ⟨g4, 6, none⟩ = some (.int .i64 0) ∧ V.cell? ⟨g4, 7, none⟩ = some (.int .i64 0)) := fun V hf => ⟨(let k := hB1.fr hf (fun h => h); ⟨k.cell 0, k.cell 1, k.cell 2, k.cell 3, k.cell 4, k.cell 5, k.cell 6, k.cell 7, k.cell 8, k.cell 9⟩), (let k := hB2.fr hf (fun h => h); ⟨k.cell 0, k.cell 1, k.cell 2, k.cell 3, k.cell 4, k.cell 5, k.cell 6, k.cell 7⟩), (let k := hB3.fr hf (fun h => h); ⟨k.cell 0, k.cell 1, k.cell 2, k.cell 3, k.cell 4, k.cell 5, k.cell 6, k.cell 7, k.cell 8⟩), (let k := hB4.fr hf (fun h => h); ⟨k.cell 0, k.cell 1, k.cell 2, k.cell 3, k.cell 4, k.cell 5, k.cell 6, k.cell 7⟩)⟩
  have hW : w4 = (((w.alloc (.cells #[.int .i64 (rg : Int), .slice (some ⟨bz, 0, none⟩) nz cz, .slice (some ⟨bc, 0, none⟩) ms cc, .slice At mt ct, .slice (some ⟨bv, 0, none⟩) nv cv, .slice Ar nr cr, .slice Ao no_ co, .int .i64 bl, .int .i64 (le : Int), .int .i64 (bk : Int)] TCf)).alloc (.cells #[.int .i64 tk, .int .i64 cn, .slice (some ⟨bt, 0, none⟩) mt dt, .slice (some ⟨bs, 0, none⟩) ms ds, .int .i64 pr, .int .i64 ev, .int .i64 lo, .int .i64 hi] TSt)).alloc (.cells #[.int .i64 kd, .int .i64 et, .int .i64 (i : Int), .int .i64 (j : Int), .int .i64 ot, .int .i64 ep, .int .i64 fm, .int .i64 un, .int .i64 n] TEm)).alloc (.cells #[.int .i64 0, .int .i64 0, .slice none 0 0, .slice none 0 0, .int .i64 0, .int .i64 0, .int .i64 0, .int .i64 0] TSt) := by rw [hw4, hw3, hw2, hw1]
  have hl1 : g1 < w4.heap.size := hB1.lt
  have hl2 : g2 < w4.heap.size := hB2.lt
  have hl3 : g3 < w4.heap.size := hB3.lt
  have hl4 : g4 < w4.heap.size := hB4.lt
  clear hw1 hb1 hs1 hw2 hb2 hs2 hw3 hb3 hs3 hw4 hb4 hs4
  have HG1 := Lib.hid hg1
  have HG2 := Lib.hid hg2
  have HG3 := Lib.hid hg3
  have HG4 := Lib.hid hg4
  have HE2 := Lib.hid he2
  have HE3 := Lib.hid he3
  have HE4 := Lib.hid he4
  clear hg1 hg2 hg3 hg4 he2 he3 he4
  have hra := fun V (hV : Fr No w4 V) => hrow.at_ V (fW.transNo hV)
  have hca := fun V (hV : Fr No w4 V) => hcr V (fW.transNo hV)
  have hz := fun V (hV : Fr No w4 V) => hB4.fr hV (fun h => h)
  have hgz : w.heap.size ≤ g4 := by rw [HE4.out, HG1.out]; omega
  have hbt3 : bt < w4.heap.size := Nat.lt_of_lt_of_le hbt fW.size
  have hn1 : bt ≠ g1 := by have := HG1.out; omega
  have hn2 : bt ≠ g2 := by have := HG1.out; have := HE2.out; omega
  have hn3 : bt ≠ g3 := by have := HG1.out; have := HE3.out; omega
  have hn4 : bt ≠ g4 := by have := HG1.out; have := HE4.out; omega
  have hm1 : g1 ≠ bt := fun h => hn1 h.symm
  have hm2 : g2 ≠ bt := fun h => hn2 h.symm
  have hm3 : g3 ≠ bt := fun h => hn3 h.symm
  have hm4 : g4 ≠ bt := fun h => hn4 h.symm
  have HST := Lib.hid hst
  have HCF := Lib.hid hcf
  have HBF := Lib.hid hbf
  have HBM := Lib.hid hbm
  have HB1 := Lib.hid hb1
  have HB2 := Lib.hid hb2
  have HKA := Lib.hid hka
  have HW := Lib.hid hW
  have HRA := Lib.hid hra
  have HCA := Lib.hid hca
  have HZ := Lib.hid hz
  have HTO := Lib.hid hto
  have HROW := Lib.hid hrow
  clear hst hcf hbf hbm hb1 hb2 hka hW hra hca hz hto hrow
  clear hcr
  go_enter Tryd.func69, Tryd.ntmps69
  go_upto_region 1 with fail
  rw [← HW.out]
  try rw [← show g4 = w.heap.size + 3 from by rw [HE4.out, HG1.out]]
  try rw [← show g3 = w.heap.size + 2 from by rw [HE3.out, HG1.out]]
  try rw [← show g2 = w.heap.size + 1 from by rw [HE2.out, HG1.out]]
  try rw [← HG1.out]
  have FQ := Lib.hid (Fr.refl No w4)
  obtain ⟨⟨e0, e1, e2, e3, e4, e5, e6, e7, e8, e9⟩, ⟨s0, s1, s2, s3, s4, s5, s6, s7⟩, ⟨x0, x1, x2, x3, x4, x5, x6, x7, x8⟩, ⟨z0, z1, z2, z3, z4, z5, z6, z7⟩⟩ := HKA.out w4 FQ.out
  obtain ⟨⟨r0, r1, r2, r3, r4, r5, r6, r7, r8, r9, r10, r11⟩, hfz⟩ := HRA.out w4 FQ.out
  obtain ⟨d0, d1, d2, d3⟩ := HCA.out w4 FQ.out
  go_upto_region 2 with fail
  go_cut [14] from 15 to 19 (fun x wx => (∃ B : Bool, x = .bool B ∧ (True)) ∧ Fr No w4 wx)
  case first =>
    rcases pl with _ | _
    all_goals (try go_wp2_with fail)
    all_goals go_meet
    all_goals exact ⟨⟨_, rfl, trivial⟩, (by repeat (first | assumption | exact Fr.refl _ _ | refine Fr.alloc ?_ _ | refine Fr.drew ?_ | refine Fr.drewN ?_ _))⟩
  obtain ⟨⟨B, rfl, hB⟩, hcf⟩ := hcut
  replace FQ := Lib.hid (FQ.out.transNo hcf)
  clear hcf
  clear e0 e1 e2 e3 e4 e5 e6 e7 e8 e9 s0 s1 s2 s3 s4 s5 s6 s7 x0 x1 x2 x3 x4 x5 x6 x7 x8 z0 z1 z2 z3 z4 z5 z6 z7 r0 r1 r2 r3 r4 r5 r6 r7 r8 r9 r10 r11 hfz d0 d1 d2 d3
  obtain ⟨⟨e0, e1, e2, e3, e4, e5, e6, e7, e8, e9⟩, ⟨s0, s1, s2, s3, s4, s5, s6, s7⟩, ⟨x0, x1, x2, x3, x4, x5, x6, x7, x8⟩, ⟨z0, z1, z2, z3, z4, z5, z6, z7⟩⟩ := HKA.out wc FQ.out
  obtain ⟨⟨r0, r1, r2, r3, r4, r5, r6, r7, r8, r9, r10, r11⟩, hfz⟩ := HRA.out wc FQ.out
  obtain ⟨d0, d1, d2, d3⟩ := HCA.out wc FQ.out
  rcases B with _ | _
  rotate_left
  · go_wp2_with fail
    refine (no_any _ _).mono ?_
    rintro e w9 ⟨rfl, f9⟩
    have hz9 := HZ.out w9 (FQ.out.transNo f9)
    have f8 := fW.transNo (FQ.out.transNo f9)
    obtain ⟨z0, z1, z2, z3, z4, z5, z6, z7⟩ := st_cells (s := stZero) hz9
    simp only at z0 z1 z2 z3 z4 z5 z6 z7
    have q0 := hz9.frozen 0
    have q1 := hz9.frozen 1
    have q2 := hz9.frozen 2
    have q3 := hz9.frozen 3
    have q4 := hz9.frozen 4
    have q5 := hz9.frozen 5
    have q6 := hz9.frozen 6
    have q7 := hz9.frozen 7
    have HZ9 := Lib.hid hz9
    have F8 := Lib.hid f8
    clear hz9 f8
    go_wp2_with fail
    exact bodyPost_ret (v := .tuple #[.agg stZero.arr, .int .i64 4]) (standby_results stZero 4 g4 _ _ (st_fill (z := stZero) stZero HZ9.out) rfl rfl) rfl (StTo.no (by decide) ((st_fill_fr stZero F8.out hgz).mono fun _ h => h.elim) rfl)
  have b0 : decide ((j : Int) < 0) = false := decide_eq_false (by omega)
  go_upto_region 5 with fail
  go_cut [27] from 28 to 52 (fun x wx => (∃ B : Bool, x = .bool B ∧ (True)) ∧ Fr No wc wx)
  case first =>
    obtain ⟨q0, hq0⟩ : ∃ q : Bool, ((j : Int) == hm) = q := ⟨_, rfl⟩
    obtain ⟨q1, hq1⟩ : ∃ q : Bool, ((j : Int) == sb) = q := ⟨_, rfl⟩
    obtain ⟨q2, hq2⟩ : ∃ q : Bool, ((j : Int) == tg) = q := ⟨_, rfl⟩
    all_goals rcases q0 with _ | _
    all_goals rcases q1 with _ | _
    all_goals rcases q2 with _ | _
    all_goals go_region
    all_goals (try go_wp2_with fail)
    all_goals go_meet
    all_goals exact ⟨⟨_, rfl, trivial⟩, (by repeat (first | assumption | exact Fr.refl _ _ | refine Fr.alloc ?_ _ | refine Fr.drew ?_ | refine Fr.drewN ?_ _))⟩
  obtain ⟨⟨B, rfl, hB⟩, hcf⟩ := hcut
  replace FQ := Lib.hid (FQ.out.transNo hcf)
  clear hcf
  clear e0 e1 e2 e3 e4 e5 e6 e7 e8 e9 s0 s1 s2 s3 s4 s5 s6 s7 x0 x1 x2 x3 x4 x5 x6 x7 x8 z0 z1 z2 z3 z4 z5 z6 z7 r0 r1 r2 r3 r4 r5 r6 r7 r8 r9 r10 r11 hfz d0 d1 d2 d3
  obtain ⟨⟨e0, e1, e2, e3, e4, e5, e6, e7, e8, e9⟩, ⟨s0, s1, s2, s3, s4, s5, s6, s7⟩, ⟨x0, x1, x2, x3, x4, x5, x6, x7, x8⟩, ⟨z0, z1, z2, z3, z4, z5, z6, z7⟩⟩ := HKA.out wc FQ.out
  obtain ⟨⟨r0, r1, r2, r3, r4, r5, r6, r7, r8, r9, r10, r11⟩, hfz⟩ := HRA.out wc FQ.out
  obtain ⟨d0, d1, d2, d3⟩ := HCA.out wc FQ.out
  rcases B with _ | _
  rotate_left
  · go_wp2_with fail
    refine (no_any _ _).mono ?_
    rintro e w9 ⟨rfl, f9⟩
    have hz9 := HZ.out w9 (FQ.out.transNo f9)
    have f8 := fW.transNo (FQ.out.transNo f9)
    obtain ⟨z0, z1, z2, z3, z4, z5, z6, z7⟩ := st_cells (s := stZero) hz9
    simp only at z0 z1 z2 z3 z4 z5 z6 z7
    have q0 := hz9.frozen 0
    have q1 := hz9.frozen 1
    have q2 := hz9.frozen 2
    have q3 := hz9.frozen 3
    have q4 := hz9.frozen 4
    have q5 := hz9.frozen 5
    have q6 := hz9.frozen 6
    have q7 := hz9.frozen 7
    have HZ9 := Lib.hid hz9
    have F8 := Lib.hid f8
    clear hz9 f8
    go_wp2_with fail
    exact bodyPost_ret (v := .tuple #[.agg stZero.arr, .int .i64 5]) (standby_results stZero 5 g4 _ _ (st_fill (z := stZero) stZero HZ9.out) rfl rfl) rfl (StTo.no (by decide) ((st_fill_fr stZero F8.out hgz).mono fun _ h => h.elim) rfl)
  go_upto_region 7 with fail
  go_cut [56] from 57 to 64 (fun x wx => (∃ B : Bool, x = .bool B ∧ (True)) ∧ Fr No wc wx)
  case first =>
    obtain ⟨q0, hq0⟩ : ∃ q : Bool, (md != 1) = q := ⟨_, rfl⟩
    all_goals rcases q0 with _ | _
    all_goals (try go_wp2_with fail)
    all_goals go_meet
    all_goals exact ⟨⟨_, rfl, trivial⟩, (by repeat (first | assumption | exact Fr.refl _ _ | refine Fr.alloc ?_ _ | refine Fr.drew ?_ | refine Fr.drewN ?_ _))⟩
  obtain ⟨⟨B, rfl, hB⟩, hcf⟩ := hcut
  replace FQ := Lib.hid (FQ.out.transNo hcf)
  clear hcf
  clear e0 e1 e2 e3 e4 e5 e6 e7 e8 e9 s0 s1 s2 s3 s4 s5 s6 s7 x0 x1 x2 x3 x4 x5 x6 x7 x8 z0 z1 z2 z3 z4 z5 z6 z7 r0 r1 r2 r3 r4 r5 r6 r7 r8 r9 r10 r11 hfz d0 d1 d2 d3
  obtain ⟨⟨e0, e1, e2, e3, e4, e5, e6, e7, e8, e9⟩, ⟨s0, s1, s2, s3, s4, s5, s6, s7⟩, ⟨x0, x1, x2, x3, x4, x5, x6, x7, x8⟩, ⟨z0, z1, z2, z3, z4, z5, z6, z7⟩⟩ := HKA.out wc FQ.out
  obtain ⟨⟨r0, r1, r2, r3, r4, r5, r6, r7, r8, r9, r10, r11⟩, hfz⟩ := HRA.out wc FQ.out
  obtain ⟨d0, d1, d2, d3⟩ := HCA.out wc FQ.out
  rcases B with _ | _
  rotate_left
  · go_wp2_with fail
    refine (no_any _ _).mono ?_
    rintro e w9 ⟨rfl, f9⟩
    have hz9 := HZ.out w9 (FQ.out.transNo f9)
    have f8 := fW.transNo (FQ.out.transNo f9)
    obtain ⟨z0, z1, z2, z3, z4, z5, z6, z7⟩ := st_cells (s := stZero) hz9
    simp only at z0 z1 z2 z3 z4 z5 z6 z7
    have q0 := hz9.frozen 0
    have q1 := hz9.frozen 1
    have q2 := hz9.frozen 2
    have q3 := hz9.frozen 3
    have q4 := hz9.frozen 4
    have q5 := hz9.frozen 5
    have q6 := hz9.frozen 6
    have q7 := hz9.frozen 7
    have HZ9 := Lib.hid hz9
    have F8 := Lib.hid f8
    clear hz9 f8
    go_wp2_with fail
    exact bodyPost_ret (v := .tuple #[.agg stZero.arr, .int .i64 6]) (standby_results stZero 6 g4 _ _ (st_fill (z := stZero) stZero HZ9.out) rfl rfl) rfl (StTo.no (by decide) ((st_fill_fr stZero F8.out hgz).mono fun _ h => h.elim) rfl)
  go_upto_region 9 with fail
  go_cut [68] from 69 to 73 (fun x wx => (∃ B : Bool, x = .bool B ∧ (True)) ∧ Fr No wc wx)
  case first =>
    go_wp2_with fail
    refine (HBF.out _ (fW.transNo FQ.out)).mono ?_
    rintro e v5 ⟨rfl, f5⟩
    all_goals (try go_wp2_with fail)
    all_goals go_meet
    all_goals exact ⟨⟨_, rfl, trivial⟩, (by repeat (first | assumption | exact Fr.refl _ _ | refine Fr.alloc ?_ _ | refine Fr.drew ?_ | refine Fr.drewN ?_ _))⟩
  obtain ⟨⟨B, rfl, hB⟩, hcf⟩ := hcut
  replace FQ := Lib.hid (FQ.out.transNo hcf)
  clear hcf
  clear e0 e1 e2 e3 e4 e5 e6 e7 e8 e9 s0 s1 s2 s3 s4 s5 s6 s7 x0 x1 x2 x3 x4 x5 x6 x7 x8 z0 z1 z2 z3 z4 z5 z6 z7 r0 r1 r2 r3 r4 r5 r6 r7 r8 r9 r10 r11 hfz d0 d1 d2 d3
  obtain ⟨⟨e0, e1, e2, e3, e4, e5, e6, e7, e8, e9⟩, ⟨s0, s1, s2, s3, s4, s5, s6, s7⟩, ⟨x0, x1, x2, x3, x4, x5, x6, x7, x8⟩, ⟨z0, z1, z2, z3, z4, z5, z6, z7⟩⟩ := HKA.out wc FQ.out
  obtain ⟨⟨r0, r1, r2, r3, r4, r5, r6, r7, r8, r9, r10, r11⟩, hfz⟩ := HRA.out wc FQ.out
  obtain ⟨d0, d1, d2, d3⟩ := HCA.out wc FQ.out
  rcases B with _ | _
  rotate_left
  · go_wp2_with fail
    refine (no_any _ _).mono ?_
    rintro e w9 ⟨rfl, f9⟩
    have hz9 := HZ.out w9 (FQ.out.transNo f9)
    have f8 := fW.transNo (FQ.out.transNo f9)
    obtain ⟨z0, z1, z2, z3, z4, z5, z6, z7⟩ := st_cells (s := stZero) hz9
    simp only at z0 z1 z2 z3 z4 z5 z6 z7
    have q0 := hz9.frozen 0
    have q1 := hz9.frozen 1
    have q2 := hz9.frozen 2
    have q3 := hz9.frozen 3
    have q4 := hz9.frozen 4
    have q5 := hz9.frozen 5
    have q6 := hz9.frozen 6
    have q7 := hz9.frozen 7
    have HZ9 := Lib.hid hz9
    have F8 := Lib.hid f8
    clear hz9 f8
    go_wp2_with fail
    exact bodyPost_ret (v := .tuple #[.agg stZero.arr, .int .i64 12]) (standby_results stZero 12 g4 _ _ (st_fill (z := stZero) stZero HZ9.out) rfl rfl) rfl (StTo.no (by decide) ((st_fill_fr stZero F8.out hgz).mono fun _ h => h.elim) rfl)
  go_upto_region 11 with fail
  go_cut [77] from 78 to 104 (fun x wx => (∃ B : Bool, x = .bool B ∧ (True)) ∧ Fr No wc wx)
  case first =>
    rcases bm with _ | _
    · refine wp_region_held_drew (S := (fun V => (V.cell? ⟨g1, 0, none⟩ = some (.int .i64 (rg : Int)) ∧ V.cell? ⟨g1, 1, none⟩ = some (.slice (some ⟨bz, 0, none⟩) nz cz) ∧ V.cell? ⟨g1, 2, none⟩ = some (.slice (some ⟨bc, 0, none⟩) ms cc) ∧ V.cell? ⟨g1, 3, none⟩ = some (.slice At mt ct) ∧ V.cell? ⟨g1, 4, none⟩ = some (.slice (some ⟨bv, 0, none⟩) nv cv) ∧ V.cell? ⟨g1, 5, none⟩ = some (.slice Ar nr cr) ∧ V.cell? ⟨g1, 6, none⟩ = some (.slice Ao no_ co) ∧ V.cell? ⟨g1, 7, none⟩ = some (.int .i64 bl) ∧ V.cell? ⟨g1, 8, none⟩ = some (.int .i64 (le : Int)) ∧ V.cell? ⟨g1, 9, none⟩ = some (.int .i64 (bk : Int))) ∧ (V.cell? ⟨g3, 0, none⟩ = some (.int .i64 kd) ∧ V.cell? ⟨g3, 1, none⟩ = some (.int .i64 et) ∧ V.cell? ⟨g3, 2, none⟩ = some (.int .i64 (i : Int)) ∧ V.cell? ⟨g3, 3, none⟩ = some (.int .i64 (j : Int)) ∧ V.cell? ⟨g3, 4, none⟩ = some (.int .i64 ot) ∧ V.cell? ⟨g3, 5, none⟩ = some (.int .i64 ep) ∧ V.cell? ⟨g3, 6, none⟩ = some (.int .i64 fm) ∧ V.cell? ⟨g3, 7, none⟩ = some (.int .i64 un) ∧ V.cell? ⟨g3, 8, none⟩ = some (.int .i64 n)) ∧ V.cell? ⟨bt, i * 12 + 2, none⟩ = some (.int .i64 hm) ∧ V.cell? ⟨bt, i * 12 + 5, none⟩ = some (.int .i64 tg))) (by kernel_rfl) (⟨(HKA.out _ (FQ.out.transNo (by repeat (first | assumption | exact Fr.refl _ _ | refine Fr.alloc ?_ _ | refine Fr.drew ?_ | refine Fr.drewN ?_ _)))).1, (HKA.out _ (FQ.out.transNo (by repeat (first | assumption | exact Fr.refl _ _ | refine Fr.alloc ?_ _ | refine Fr.drew ?_ | refine Fr.drewN ?_ _)))).2.2.1, (HRA.out _ (FQ.out.transNo (by repeat (first | assumption | exact Fr.refl _ _ | refine Fr.alloc ?_ _ | refine Fr.drew ?_ | refine Fr.drewN ?_ _)))).1.2.2.1, (HRA.out _ (FQ.out.transNo (by repeat (first | assumption | exact Fr.refl _ _ | refine Fr.alloc ?_ _ | refine Fr.drew ?_ | refine Fr.drewN ?_ _)))).1.2.2.2.2.2.1⟩) (fun hHeld => ?_)
      refine wpAnyH_take (i := 0) (v := ?_) rfl (by kernel_rfl) (by kernel_rfl) (by kernel_rfl) (fun _ _ _ h => h) (Or.inl ⟨by rfl, ?_⟩) (by assumption) ?_
      rotate_left
      · (intro w hSw; (try dsimp only at hSw); go_simp) <;> with_reducible rfl
      simp only [Act.put, List.setIfInBounds_toArray, List.set_cons_zero, List.set_cons_succ, List.getElem_toArray, List.getElem_cons_zero]
      refine wpAnyH_take (i := 1) (v := ?_) rfl (by kernel_rfl) (by kernel_rfl) (by kernel_rfl) (fun _ _ _ h => h) (Or.inl ⟨by rfl, ?_⟩) (by assumption) ?_
      rotate_left
      · (intro w hSw; (try dsimp only at hSw); go_simp) <;> with_reducible rfl
      simp only [Act.put, List.setIfInBounds_toArray, List.set_cons_zero, List.set_cons_succ, List.getElem_toArray, List.getElem_cons_zero, List.getElem_cons_succ]
      refine wpAnyH_take (i := 2) (v := ?_) rfl (by kernel_rfl) (by kernel_rfl) (by kernel_rfl) (fun _ _ _ h => h) (Or.inl ⟨by rfl, ?_⟩) (by assumption) ?_
      rotate_left
      · (intro w hSw; (try dsimp only at hSw); go_simp) <;> with_reducible rfl
      simp only [Act.put, List.setIfInBounds_toArray, List.set_cons_zero, List.set_cons_succ, List.getElem_toArray, List.getElem_cons_zero, List.getElem_cons_succ]
      refine wpAnyH_take (i := 3) (v := ?_) rfl (by kernel_rfl) (by kernel_rfl) (by kernel_rfl) (fun _ _ _ h => h) (Or.inl ⟨by rfl, ?_⟩) (by assumption) ?_
      rotate_left
      · (intro w hSw; (try dsimp only at hSw); go_simp) <;> with_reducible rfl
      simp only [Act.put, List.setIfInBounds_toArray, List.set_cons_zero, List.set_cons_succ, List.getElem_toArray, List.getElem_cons_zero, List.getElem_cons_succ]
      refine wpAnyH_take (i := 4) (v := ?_) rfl (by kernel_rfl) (by kernel_rfl) (by kernel_rfl) (fun _ _ _ h => h) (Or.inl ⟨by rfl, ?_⟩) (by assumption) ?_
      rotate_left
      · (intro w hSw; (try dsimp only at hSw); go_simp) <;> with_reducible rfl
      simp only [Act.put, List.setIfInBounds_toArray, List.set_cons_zero, List.set_cons_succ, List.getElem_toArray, List.getElem_cons_zero, List.getElem_cons_succ]
      refine wpAnyH_ready (rs := [5]) (by kernel_rfl) (by simp) (AllReadyH.cons rfl (fun K hK => ?_) AllReadyH.nil)
      go_simp
      refine (HBM.out _ (fW.transNo (FQ.out.transNo (by repeat (first | assumption | exact Fr.refl _ _ | refine Fr.alloc ?_ _ | refine Fr.drew ?_ | refine Fr.drewN ?_ _))))).mono ?_
      rintro e v5 ⟨rfl, f5⟩
      have Q5 : Fr No wc v5 := Fr.transNo (by repeat (first | assumption | exact Fr.refl _ _ | refine Fr.alloc ?_ _ | refine Fr.drew ?_ | refine Fr.drewN ?_ _)) f5
      clear f5
      go_wp2_with fail
      clear hHeld
      refine hK.out _ _ (⟨(HKA.out _ (FQ.out.transNo (by repeat (first | assumption | exact Fr.refl _ _ | refine Fr.alloc ?_ _ | refine Fr.drew ?_ | refine Fr.drewN ?_ _)))).1, (HKA.out _ (FQ.out.transNo (by repeat (first | assumption | exact Fr.refl _ _ | refine Fr.alloc ?_ _ | refine Fr.drew ?_ | refine Fr.drewN ?_ _)))).2.2.1, (HRA.out _ (FQ.out.transNo (by repeat (first | assumption | exact Fr.refl _ _ | refine Fr.alloc ?_ _ | refine Fr.drew ?_ | refine Fr.drewN ?_ _)))).1.2.2.1, (HRA.out _ (FQ.out.transNo (by repeat (first | assumption | exact Fr.refl _ _ | refine Fr.alloc ?_ _ | refine Fr.drew ?_ | refine Fr.drewN ?_ _)))).1.2.2.2.2.2.1⟩) (fun hHeld => ?_)
      clear hK K
      try simp only [Act.put, List.setIfInBounds_toArray, List.set_cons_zero, List.set_cons_succ, List.getElem_toArray, List.getElem_cons_zero, List.getElem_cons_succ]
      refine wpAnyH_take (i := 6) (v := ?_) rfl (by kernel_rfl) (by kernel_rfl) (by kernel_rfl) (fun _ _ _ h => h) (Or.inl ⟨by rfl, ?_⟩) (by assumption) ?_
      rotate_left
      · (intro w hSw; (try dsimp only at hSw); go_simp) <;> with_reducible rfl
      simp only [Act.put, List.setIfInBounds_toArray, List.set_cons_zero, List.set_cons_succ, List.getElem_toArray, List.getElem_cons_zero, List.getElem_cons_succ]
      refine wpAnyH_take (i := 7) (v := ?_) rfl (by kernel_rfl) (by kernel_rfl) (by kernel_rfl) (fun _ _ _ h => h) (Or.inl ⟨by rfl, ?_⟩) (by assumption) ?_
      rotate_left
      · (intro w hSw; (try dsimp only at hSw); go_simp) <;> with_reducible rfl
      simp only [Act.put, List.setIfInBounds_toArray, List.set_cons_zero, List.set_cons_succ, List.getElem_toArray, List.getElem_cons_zero, List.getElem_cons_succ]
      refine wpAnyH_take (i := 8) (v := undef) rfl (by kernel_rfl) (by kernel_rfl) (by kernel_rfl) (fun _ _ _ h => h) (Or.inr ⟨by rfl, rfl⟩) (by assumption) ?_
      simp only [Act.put, List.setIfInBounds_toArray, List.set_cons_zero, List.set_cons_succ, List.getElem_toArray, List.getElem_cons_zero, List.getElem_cons_succ]
      refine wpAnyH_take (i := 9) (v := undef) rfl (by kernel_rfl) (by kernel_rfl) (by kernel_rfl) (fun _ _ _ h => h) (Or.inr ⟨by rfl, rfl⟩) (by assumption) ?_
      simp only [Act.put, List.setIfInBounds_toArray, List.set_cons_zero, List.set_cons_succ, List.getElem_toArray, List.getElem_cons_zero, List.getElem_cons_succ]
      refine wpAnyH_take (i := 10) (v := undef) rfl (by kernel_rfl) (by kernel_rfl) (by kernel_rfl) (fun _ _ _ h => h) (Or.inr ⟨by rfl, rfl⟩) (by assumption) ?_
      simp only [Act.put, List.setIfInBounds_toArray, List.set_cons_zero, List.set_cons_succ, List.getElem_toArray, List.getElem_cons_zero, List.getElem_cons_succ]
      refine wpAnyH_take (i := 11) (v := undef) rfl (by kernel_rfl) (by kernel_rfl) (by kernel_rfl) (fun _ _ _ h => h) (Or.inr ⟨by rfl, rfl⟩) (by assumption) ?_
      simp only [Act.put, List.setIfInBounds_toArray, List.set_cons_zero, List.set_cons_succ, List.getElem_toArray, List.getElem_cons_zero, List.getElem_cons_succ]
      refine wpAnyH_take (i := 12) (v := undef) rfl (by kernel_rfl) (by kernel_rfl) (by kernel_rfl) (fun _ _ _ h => h) (Or.inr ⟨by rfl, rfl⟩) (by assumption) ?_
      simp only [Act.put, List.setIfInBounds_toArray, List.set_cons_zero, List.set_cons_succ, List.getElem_toArray, List.getElem_cons_zero, List.getElem_cons_succ]
      refine wpAnyH_take (i := 13) (v := undef) rfl (by kernel_rfl) (by kernel_rfl) (by kernel_rfl) (fun _ _ _ h => h) (Or.inr ⟨by rfl, rfl⟩) (by assumption) ?_
      simp only [Act.put, List.setIfInBounds_toArray, List.set_cons_zero, List.set_cons_succ, List.getElem_toArray, List.getElem_cons_zero, List.getElem_cons_succ]
      refine wpAnyH_take (i := 14) (v := undef) rfl (by kernel_rfl) (by kernel_rfl) (by kernel_rfl) (fun _ _ _ h => h) (Or.inr ⟨by rfl, rfl⟩) (by assumption) ?_
      simp only [Act.put, List.setIfInBounds_toArray, List.set_cons_zero, List.set_cons_succ, List.getElem_toArray, List.getElem_cons_zero, List.getElem_cons_succ]
      refine wpAnyH_take (i := 15) (v := undef) rfl (by kernel_rfl) (by kernel_rfl) (by kernel_rfl) (fun _ _ _ h => h) (Or.inr ⟨by rfl, rfl⟩) (by assumption) ?_
      simp only [Act.put, List.setIfInBounds_toArray, List.set_cons_zero, List.set_cons_succ, List.getElem_toArray, List.getElem_cons_zero, List.getElem_cons_succ]
      refine wpAnyH_take (i := 16) (v := ?_) rfl (by kernel_rfl) (by kernel_rfl) (by kernel_rfl) (fun _ _ _ h => h) (Or.inl ⟨by rfl, ?_⟩) (by assumption) ?_
      rotate_left
      · (intro w hSw; (try dsimp only at hSw); go_simp) <;> with_reducible rfl
      simp only [Act.put, List.setIfInBounds_toArray, List.set_cons_zero, List.set_cons_succ, List.getElem_toArray, List.getElem_cons_zero, List.getElem_cons_succ]
      refine wpAnyH_take (i := 17) (v := ?_) rfl (by kernel_rfl) (by kernel_rfl) (by kernel_rfl) (fun _ _ _ h => h) (Or.inl ⟨by rfl, ?_⟩) (by assumption) ?_
      rotate_left
      · (intro w hSw; (try dsimp only at hSw); go_simp) <;> with_reducible rfl
      simp only [Act.put, List.setIfInBounds_toArray, List.set_cons_zero, List.set_cons_succ, List.getElem_toArray, List.getElem_cons_zero, List.getElem_cons_succ]
      refine wpAnyH_take (i := 18) (v := undef) rfl (by kernel_rfl) (by kernel_rfl) (by kernel_rfl) (fun _ _ _ h => h) (Or.inr ⟨by rfl, rfl⟩) (by assumption) ?_
      simp only [Act.put, List.setIfInBounds_toArray, List.set_cons_zero, List.set_cons_succ, List.getElem_toArray, List.getElem_cons_zero, List.getElem_cons_succ]
      refine wpAnyH_take (i := 19) (v := undef) rfl (by kernel_rfl) (by kernel_rfl) (by kernel_rfl) (fun _ _ _ h => h) (Or.inr ⟨by rfl, rfl⟩) (by assumption) ?_
      simp only [Act.put, List.setIfInBounds_toArray, List.set_cons_zero, List.set_cons_succ, List.getElem_toArray, List.getElem_cons_zero, List.getElem_cons_succ]
      refine wpAnyH_take (i := 20) (v := undef) rfl (by kernel_rfl) (by kernel_rfl) (by kernel_rfl) (fun _ _ _ h => h) (Or.inr ⟨by rfl, rfl⟩) (by assumption) ?_
      simp only [Act.put, List.setIfInBounds_toArray, List.set_cons_zero, List.set_cons_succ, List.getElem_toArray, List.getElem_cons_zero, List.getElem_cons_succ]
      refine wpAnyH_take (i := 21) (v := undef) rfl (by kernel_rfl) (by kernel_rfl) (by kernel_rfl) (fun _ _ _ h => h) (Or.inr ⟨by rfl, rfl⟩) (by assumption) ?_
      simp only [Act.put, List.setIfInBounds_toArray, List.set_cons_zero, List.set_cons_succ, List.getElem_toArray, List.getElem_cons_zero, List.getElem_cons_succ]
      refine wpAnyH_take (i := 22) (v := undef) rfl (by kernel_rfl) (by kernel_rfl) (by kernel_rfl) (fun _ _ _ h => h) (Or.inr ⟨by rfl, rfl⟩) (by assumption) ?_
      simp only [Act.put, List.setIfInBounds_toArray, List.set_cons_zero, List.set_cons_succ, List.getElem_toArray, List.getElem_cons_zero, List.getElem_cons_succ]
      refine wpAnyH_take (i := 23) (v := undef) rfl (by kernel_rfl) (by kernel_rfl) (by kernel_rfl) (fun _ _ _ h => h) (Or.inr ⟨by rfl, rfl⟩) (by assumption) ?_
      simp only [Act.put, List.setIfInBounds_toArray, List.set_cons_zero, List.set_cons_succ, List.getElem_toArray, List.getElem_cons_zero, List.getElem_cons_succ]
      refine wpAnyH_take (i := 24) (v := undef) rfl (by kernel_rfl) (by kernel_rfl) (by kernel_rfl) (fun _ _ _ h => h) (Or.inr ⟨by rfl, rfl⟩) (by assumption) ?_
      simp only [Act.put, List.setIfInBounds_toArray, List.set_cons_zero, List.set_cons_succ, List.getElem_toArray, List.getElem_cons_zero, List.getElem_cons_succ]
      refine wpAnyH_take (i := 25) (v := undef) rfl (by kernel_rfl) (by kernel_rfl) (by kernel_rfl) (fun _ _ _ h => h) (Or.inr ⟨by rfl, rfl⟩) (by assumption) ?_
      simp only [Act.put, List.setIfInBounds_toArray, List.set_cons_zero, List.set_cons_succ, List.getElem_toArray, List.getElem_cons_zero, List.getElem_cons_succ]
      refine wpAnyH_take (i := 26) (v := ?_) rfl (by kernel_rfl) (by kernel_rfl) (by kernel_rfl) (fun _ _ _ h => h) (Or.inl ⟨by rfl, ?_⟩) (by assumption) ?_
      rotate_left
      · (intro w hSw; (try dsimp only at hSw); go_simp) <;> with_reducible rfl
      simp only [Act.put, List.setIfInBounds_toArray, List.set_cons_zero, List.set_cons_succ, List.getElem_toArray, List.getElem_cons_zero, List.getElem_cons_succ]
      refine wpAnyH_take (i := 27) (v := ?_) rfl (by kernel_rfl) (by kernel_rfl) (by kernel_rfl) (fun _ _ _ h => h) (Or.inl ⟨by rfl, ?_⟩) (by assumption) ?_
      rotate_left
      · (intro w hSw; (try dsimp only at hSw); go_simp) <;> with_reducible rfl
      simp only [Act.put, List.setIfInBounds_toArray, List.set_cons_zero, List.set_cons_succ, List.getElem_toArray, List.getElem_cons_zero, List.getElem_cons_succ]
      refine wpAnyH_done (by kernel_rfl) ?_ _
      all_goals (try go_wp2_with fail)
      all_goals go_meet
      all_goals exact ⟨⟨_, rfl, trivial⟩, (by repeat (first | assumption | exact Fr.refl _ _ | refine Fr.alloc ?_ _ | refine Fr.drew ?_ | refine Fr.drewN ?_ _))⟩
    · rcases b1 with _ | _
      · refine wp_region_held_drew (S := (fun V => (V.cell? ⟨g1, 0, none⟩ = some (.int .i64 (rg : Int)) ∧ V.cell? ⟨g1, 1, none⟩ = some (.slice (some ⟨bz, 0, none⟩) nz cz) ∧ V.cell? ⟨g1, 2, none⟩ = some (.slice (some ⟨bc, 0, none⟩) ms cc) ∧ V.cell? ⟨g1, 3, none⟩ = some (.slice At mt ct) ∧ V.cell? ⟨g1, 4, none⟩ = some (.slice (some ⟨bv, 0, none⟩) nv cv) ∧ V.cell? ⟨g1, 5, none⟩ = some (.slice Ar nr cr) ∧ V.cell? ⟨g1, 6, none⟩ = some (.slice Ao no_ co) ∧ V.cell? ⟨g1, 7, none⟩ = some (.int .i64 bl) ∧ V.cell? ⟨g1, 8, none⟩ = some (.int .i64 (le : Int)) ∧ V.cell? ⟨g1, 9, none⟩ = some (.int .i64 (bk : Int))) ∧ (V.cell? ⟨g3, 0, none⟩ = some (.int .i64 kd) ∧ V.cell? ⟨g3, 1, none⟩ = some (.int .i64 et) ∧ V.cell? ⟨g3, 2, none⟩ = some (.int .i64 (i : Int)) ∧ V.cell? ⟨g3, 3, none⟩ = some (.int .i64 (j : Int)) ∧ V.cell? ⟨g3, 4, none⟩ = some (.int .i64 ot) ∧ V.cell? ⟨g3, 5, none⟩ = some (.int .i64 ep) ∧ V.cell? ⟨g3, 6, none⟩ = some (.int .i64 fm) ∧ V.cell? ⟨g3, 7, none⟩ = some (.int .i64 un) ∧ V.cell? ⟨g3, 8, none⟩ = some (.int .i64 n)) ∧ V.cell? ⟨bt, i * 12 + 2, none⟩ = some (.int .i64 hm) ∧ V.cell? ⟨bt, i * 12 + 5, none⟩ = some (.int .i64 tg))) (by kernel_rfl) (⟨(HKA.out _ (FQ.out.transNo (by repeat (first | assumption | exact Fr.refl _ _ | refine Fr.alloc ?_ _ | refine Fr.drew ?_ | refine Fr.drewN ?_ _)))).1, (HKA.out _ (FQ.out.transNo (by repeat (first | assumption | exact Fr.refl _ _ | refine Fr.alloc ?_ _ | refine Fr.drew ?_ | refine Fr.drewN ?_ _)))).2.2.1, (HRA.out _ (FQ.out.transNo (by repeat (first | assumption | exact Fr.refl _ _ | refine Fr.alloc ?_ _ | refine Fr.drew ?_ | refine Fr.drewN ?_ _)))).1.2.2.1, (HRA.out _ (FQ.out.transNo (by repeat (first | assumption | exact Fr.refl _ _ | refine Fr.alloc ?_ _ | refine Fr.drew ?_ | refine Fr.drewN ?_ _)))).1.2.2.2.2.2.1⟩) (fun hHeld => ?_)
        refine wpAnyH_take (i := 0) (v := ?_) rfl (by kernel_rfl) (by kernel_rfl) (by kernel_rfl) (fun _ _ _ h => h) (Or.inl ⟨by rfl, ?_⟩) (by assumption) ?_
        rotate_left
        · (intro w hSw; (try dsimp only at hSw); go_simp) <;> with_reducible rfl
        simp only [Act.put, List.setIfInBounds_toArray, List.set_cons_zero, List.set_cons_succ, List.getElem_toArray, List.getElem_cons_zero]
        refine wpAnyH_take (i := 1) (v := ?_) rfl (by kernel_rfl) (by kernel_rfl) (by kernel_rfl) (fun _ _ _ h => h) (Or.inl ⟨by rfl, ?_⟩) (by assumption) ?_
        rotate_left
        · (intro w hSw; (try dsimp only at hSw); go_simp) <;> with_reducible rfl
        simp only [Act.put, List.setIfInBounds_toArray, List.set_cons_zero, List.set_cons_succ, List.getElem_toArray, List.getElem_cons_zero, List.getElem_cons_succ]
        refine wpAnyH_take (i := 2) (v := ?_) rfl (by kernel_rfl) (by kernel_rfl) (by kernel_rfl) (fun _ _ _ h => h) (Or.inl ⟨by rfl, ?_⟩) (by assumption) ?_
        rotate_left
        · (intro w hSw; (try dsimp only at hSw); go_simp) <;> with_reducible rfl
        simp only [Act.put, List.setIfInBounds_toArray, List.set_cons_zero, List.set_cons_succ, List.getElem_toArray, List.getElem_cons_zero, List.getElem_cons_succ]
        refine wpAnyH_take (i := 3) (v := ?_) rfl (by kernel_rfl) (by kernel_rfl) (by kernel_rfl) (fun _ _ _ h => h) (Or.inl ⟨by rfl, ?_⟩) (by assumption) ?_
        rotate_left
        · (intro w hSw; (try dsimp only at hSw); go_simp) <;> with_reducible rfl
        simp only [Act.put, List.setIfInBounds_toArray, List.set_cons_zero, List.set_cons_succ, List.getElem_toArray, List.getElem_cons_zero, List.getElem_cons_succ]
        refine wpAnyH_take (i := 4) (v := ?_) rfl (by kernel_rfl) (by kernel_rfl) (by kernel_rfl) (fun _ _ _ h => h) (Or.inl ⟨by rfl, ?_⟩) (by assumption) ?_
        rotate_left
        · (intro w hSw; (try dsimp only at hSw); go_simp) <;> with_reducible rfl
        simp only [Act.put, List.setIfInBounds_toArray, List.set_cons_zero, List.set_cons_succ, List.getElem_toArray, List.getElem_cons_zero, List.getElem_cons_succ]
        refine wpAnyH_ready (rs := [5]) (by kernel_rfl) (by simp) (AllReadyH.cons rfl (fun K hK => ?_) AllReadyH.nil)
        go_simp
        refine (HBM.out _ (fW.transNo (FQ.out.transNo (by repeat (first | assumption | exact Fr.refl _ _ | refine Fr.alloc ?_ _ | refine Fr.drew ?_ | refine Fr.drewN ?_ _))))).mono ?_
        rintro e v5 ⟨rfl, f5⟩
        have Q5 : Fr No wc v5 := Fr.transNo (by repeat (first | assumption | exact Fr.refl _ _ | refine Fr.alloc ?_ _ | refine Fr.drew ?_ | refine Fr.drewN ?_ _)) f5
        clear f5
        go_wp2_with fail
        clear hHeld
        refine hK.out _ _ (⟨(HKA.out _ (FQ.out.transNo (by repeat (first | assumption | exact Fr.refl _ _ | refine Fr.alloc ?_ _ | refine Fr.drew ?_ | refine Fr.drewN ?_ _)))).1, (HKA.out _ (FQ.out.transNo (by repeat (first | assumption | exact Fr.refl _ _ | refine Fr.alloc ?_ _ | refine Fr.drew ?_ | refine Fr.drewN ?_ _)))).2.2.1, (HRA.out _ (FQ.out.transNo (by repeat (first | assumption | exact Fr.refl _ _ | refine Fr.alloc ?_ _ | refine Fr.drew ?_ | refine Fr.drewN ?_ _)))).1.2.2.1, (HRA.out _ (FQ.out.transNo (by repeat (first | assumption | exact Fr.refl _ _ | refine Fr.alloc ?_ _ | refine Fr.drew ?_ | refine Fr.drewN ?_ _)))).1.2.2.2.2.2.1⟩) (fun hHeld => ?_)
        clear hK K
        try simp only [Act.put, List.setIfInBounds_toArray, List.set_cons_zero, List.set_cons_succ, List.getElem_toArray, List.getElem_cons_zero, List.getElem_cons_succ]
        refine wpAnyH_take (i := 6) (v := ?_) rfl (by kernel_rfl) (by kernel_rfl) (by kernel_rfl) (fun _ _ _ h => h) (Or.inl ⟨by rfl, ?_⟩) (by assumption) ?_
        rotate_left
        · (intro w hSw; (try dsimp only at hSw); go_simp) <;> with_reducible rfl
        simp only [Act.put, List.setIfInBounds_toArray, List.set_cons_zero, List.set_cons_succ, List.getElem_toArray, List.getElem_cons_zero, List.getElem_cons_succ]
        refine wpAnyH_take (i := 7) (v := ?_) rfl (by kernel_rfl) (by kernel_rfl) (by kernel_rfl) (fun _ _ _ h => h) (Or.inl ⟨by rfl, ?_⟩) (by assumption) ?_
        rotate_left
        · (intro w hSw; (try dsimp only at hSw); go_simp) <;> with_reducible rfl
        simp only [Act.put, List.setIfInBounds_toArray, List.set_cons_zero, List.set_cons_succ, List.getElem_toArray, List.getElem_cons_zero, List.getElem_cons_succ]
        refine wpAnyH_take (i := 8) (v := ?_) rfl (by kernel_rfl) (by kernel_rfl) (by kernel_rfl) (fun _ _ _ h => h) (Or.inl ⟨by rfl, ?_⟩) (by assumption) ?_
        rotate_left
        · (intro w hSw; (try dsimp only at hSw); go_simp) <;> with_reducible rfl
        simp only [Act.put, List.setIfInBounds_toArray, List.set_cons_zero, List.set_cons_succ, List.getElem_toArray, List.getElem_cons_zero, List.getElem_cons_succ]
        refine wpAnyH_take (i := 9) (v := ?_) rfl (by kernel_rfl) (by kernel_rfl) (by kernel_rfl) (fun _ _ _ h => h) (Or.inl ⟨by rfl, ?_⟩) (by assumption) ?_
        rotate_left
        · (intro w hSw; (try dsimp only at hSw); go_simp) <;> with_reducible rfl
        simp only [Act.put, List.setIfInBounds_toArray, List.set_cons_zero, List.set_cons_succ, List.getElem_toArray, List.getElem_cons_zero, List.getElem_cons_succ]
        refine wpAnyH_take (i := 10) (v := ?_) rfl (by kernel_rfl) (by kernel_rfl) (by kernel_rfl) (fun _ _ _ h => h) (Or.inl ⟨by rfl, ?_⟩) (by assumption) ?_
        rotate_left
        · (intro w hSw; (try dsimp only at hSw); go_simp) <;> with_reducible rfl
        simp only [Act.put, List.setIfInBounds_toArray, List.set_cons_zero, List.set_cons_succ, List.getElem_toArray, List.getElem_cons_zero, List.getElem_cons_succ]
        refine wpAnyH_take (i := 11) (v := ?_) rfl (by kernel_rfl) (by kernel_rfl) (by kernel_rfl) (fun _ _ _ h => h) (Or.inl ⟨by rfl, ?_⟩) (by assumption) ?_
        rotate_left
        · (intro w hSw; (try dsimp only at hSw); go_simp) <;> with_reducible rfl
        simp only [Act.put, List.setIfInBounds_toArray, List.set_cons_zero, List.set_cons_succ, List.getElem_toArray, List.getElem_cons_zero, List.getElem_cons_succ]
        refine wpAnyH_take (i := 12) (v := ?_) rfl (by kernel_rfl) (by kernel_rfl) (by kernel_rfl) (fun _ _ _ h => h) (Or.inl ⟨by rfl, ?_⟩) (by assumption) ?_
        rotate_left
        · (intro w hSw; (try dsimp only at hSw); go_simp) <;> with_reducible rfl
        simp only [Act.put, List.setIfInBounds_toArray, List.set_cons_zero, List.set_cons_succ, List.getElem_toArray, List.getElem_cons_zero, List.getElem_cons_succ]
        refine wpAnyH_take (i := 13) (v := ?_) rfl (by kernel_rfl) (by kernel_rfl) (by kernel_rfl) (fun _ _ _ h => h) (Or.inl ⟨by rfl, ?_⟩) (by assumption) ?_
        rotate_left
        · (intro w hSw; (try dsimp only at hSw); go_simp) <;> with_reducible rfl
        simp only [Act.put, List.setIfInBounds_toArray, List.set_cons_zero, List.set_cons_succ, List.getElem_toArray, List.getElem_cons_zero, List.getElem_cons_succ]
        refine wpAnyH_take (i := 14) (v := ?_) rfl (by kernel_rfl) (by kernel_rfl) (by kernel_rfl) (fun _ _ _ h => h) (Or.inl ⟨by rfl, ?_⟩) (by assumption) ?_
        rotate_left
        · (intro w hSw; (try dsimp only at hSw); go_simp) <;> with_reducible rfl
        simp only [Act.put, List.setIfInBounds_toArray, List.set_cons_zero, List.set_cons_succ, List.getElem_toArray, List.getElem_cons_zero, List.getElem_cons_succ]
        refine wpAnyH_ready (rs := [15]) (by kernel_rfl) (by simp) (AllReadyH.cons rfl (fun K hK => ?_) AllReadyH.nil)
        go_simp
        refine (HB1.out _ (fW.transNo (FQ.out.transNo (by repeat (first | assumption | exact Fr.refl _ _ | refine Fr.alloc ?_ _ | refine Fr.drew ?_ | refine Fr.drewN ?_ _))))).mono ?_
        rintro e v6 ⟨rfl, f5⟩
        have Q6 : Fr No wc v6 := Fr.transNo (by repeat (first | assumption | exact Fr.refl _ _ | refine Fr.alloc ?_ _ | refine Fr.drew ?_ | refine Fr.drewN ?_ _)) f5
        clear f5
        go_wp2_with fail
        clear hHeld
        refine hK.out _ _ (⟨(HKA.out _ (FQ.out.transNo (by repeat (first | assumption | exact Fr.refl _ _ | refine Fr.alloc ?_ _ | refine Fr.drew ?_ | refine Fr.drewN ?_ _)))).1, (HKA.out _ (FQ.out.transNo (by repeat (first | assumption | exact Fr.refl _ _ | refine Fr.alloc ?_ _ | refine Fr.drew ?_ | refine Fr.drewN ?_ _)))).2.2.1, (HRA.out _ (FQ.out.transNo (by repeat (first | assumption | exact Fr.refl _ _ | refine Fr.alloc ?_ _ | refine Fr.drew ?_ | refine Fr.drewN ?_ _)))).1.2.2.1, (HRA.out _ (FQ.out.transNo (by repeat (first | assumption | exact Fr.refl _ _ | refine Fr.alloc ?_ _ | refine Fr.drew ?_ | refine Fr.drewN ?_ _)))).1.2.2.2.2.2.1⟩) (fun hHeld => ?_)
        clear hK K
        try simp only [Act.put, List.setIfInBounds_toArray, List.set_cons_zero, List.set_cons_succ, List.getElem_toArray, List.getElem_cons_zero, List.getElem_cons_succ]
        refine wpAnyH_take (i := 16) (v := ?_) rfl (by kernel_rfl) (by kernel_rfl) (by kernel_rfl) (fun _ _ _ h => h) (Or.inl ⟨by rfl, ?_⟩) (by assumption) ?_
        rotate_left
        · (intro w hSw; (try dsimp only at hSw); go_simp) <;> with_reducible rfl
        simp only [Act.put, List.setIfInBounds_toArray, List.set_cons_zero, List.set_cons_succ, List.getElem_toArray, List.getElem_cons_zero, List.getElem_cons_succ]
        refine wpAnyH_take (i := 17) (v := ?_) rfl (by kernel_rfl) (by kernel_rfl) (by kernel_rfl) (fun _ _ _ h => h) (Or.inl ⟨by rfl, ?_⟩) (by assumption) ?_
        rotate_left
        · (intro w hSw; (try dsimp only at hSw); go_simp) <;> with_reducible rfl
        simp only [Act.put, List.setIfInBounds_toArray, List.set_cons_zero, List.set_cons_succ, List.getElem_toArray, List.getElem_cons_zero, List.getElem_cons_succ]
        refine wpAnyH_take (i := 18) (v := ?_) rfl (by kernel_rfl) (by kernel_rfl) (by kernel_rfl) (fun _ _ _ h => h) (Or.inl ⟨by rfl, ?_⟩) (by assumption) ?_
        rotate_left
        · (intro w hSw; (try dsimp only at hSw); go_simp) <;> with_reducible rfl
        simp only [Act.put, List.setIfInBounds_toArray, List.set_cons_zero, List.set_cons_succ, List.getElem_toArray, List.getElem_cons_zero, List.getElem_cons_succ]
        refine wpAnyH_take (i := 19) (v := ?_) rfl (by kernel_rfl) (by kernel_rfl) (by kernel_rfl) (fun _ _ _ h => h) (Or.inl ⟨by rfl, ?_⟩) (by assumption) ?_
        rotate_left
        · (intro w hSw; (try dsimp only at hSw); go_simp) <;> with_reducible rfl
        simp only [Act.put, List.setIfInBounds_toArray, List.set_cons_zero, List.set_cons_succ, List.getElem_toArray, List.getElem_cons_zero, List.getElem_cons_succ]
        refine wpAnyH_take (i := 20) (v := ?_) rfl (by kernel_rfl) (by kernel_rfl) (by kernel_rfl) (fun _ _ _ h => h) (Or.inl ⟨by rfl, ?_⟩) (by assumption) ?_
        rotate_left
        · (intro w hSw; (try dsimp only at hSw); go_simp) <;> with_reducible rfl
        simp only [Act.put, List.setIfInBounds_toArray, List.set_cons_zero, List.set_cons_succ, List.getElem_toArray, List.getElem_cons_zero, List.getElem_cons_succ]
        refine wpAnyH_take (i := 21) (v := ?_) rfl (by kernel_rfl) (by kernel_rfl) (by kernel_rfl) (fun _ _ _ h => h) (Or.inl ⟨by rfl, ?_⟩) (by assumption) ?_
        rotate_left
        · (intro w hSw; (try dsimp only at hSw); go_simp) <;> with_reducible rfl
        simp only [Act.put, List.setIfInBounds_toArray, List.set_cons_zero, List.set_cons_succ, List.getElem_toArray, List.getElem_cons_zero, List.getElem_cons_succ]
        refine wpAnyH_take (i := 22) (v := ?_) rfl (by kernel_rfl) (by kernel_rfl) (by kernel_rfl) (fun _ _ _ h => h) (Or.inl ⟨by rfl, ?_⟩) (by assumption) ?_
        rotate_left
        · (intro w hSw; (try dsimp only at hSw); go_simp) <;> with_reducible rfl
        simp only [Act.put, List.setIfInBounds_toArray, List.set_cons_zero, List.set_cons_succ, List.getElem_toArray, List.getElem_cons_zero, List.getElem_cons_succ]
        refine wpAnyH_take (i := 23) (v := ?_) rfl (by kernel_rfl) (by kernel_rfl) (by kernel_rfl) (fun _ _ _ h => h) (Or.inl ⟨by rfl, ?_⟩) (by assumption) ?_
        rotate_left
        · (intro w hSw; (try dsimp only at hSw); go_simp) <;> with_reducible rfl
        simp only [Act.put, List.setIfInBounds_toArray, List.set_cons_zero, List.set_cons_succ, List.getElem_toArray, List.getElem_cons_zero, List.getElem_cons_succ]
        refine wpAnyH_take (i := 24) (v := ?_) rfl (by kernel_rfl) (by kernel_rfl) (by kernel_rfl) (fun _ _ _ h => h) (Or.inl ⟨by rfl, ?_⟩) (by assumption) ?_
        rotate_left
        · (intro w hSw; (try dsimp only at hSw); go_simp) <;> with_reducible rfl
        simp only [Act.put, List.setIfInBounds_toArray, List.set_cons_zero, List.set_cons_succ, List.getElem_toArray, List.getElem_cons_zero, List.getElem_cons_succ]
        refine wpAnyH_ready (rs := [25]) (by kernel_rfl) (by simp) (AllReadyH.cons rfl (fun K hK => ?_) AllReadyH.nil)
        go_simp
        refine (HB2.out _ (fW.transNo (FQ.out.transNo (by repeat (first | assumption | exact Fr.refl _ _ | refine Fr.alloc ?_ _ | refine Fr.drew ?_ | refine Fr.drewN ?_ _))))).mono ?_
        rintro e v7 ⟨rfl, f5⟩
        have Q7 : Fr No wc v7 := Fr.transNo (by repeat (first | assumption | exact Fr.refl _ _ | refine Fr.alloc ?_ _ | refine Fr.drew ?_ | refine Fr.drewN ?_ _)) f5
        clear f5
        go_wp2_with fail
        clear hHeld
        refine hK.out _ _ (⟨(HKA.out _ (FQ.out.transNo (by repeat (first | assumption | exact Fr.refl _ _ | refine Fr.alloc ?_ _ | refine Fr.drew ?_ | refine Fr.drewN ?_ _)))).1, (HKA.out _ (FQ.out.transNo (by repeat (first | assumption | exact Fr.refl _ _ | refine Fr.alloc ?_ _ | refine Fr.drew ?_ | refine Fr.drewN ?_ _)))).2.2.1, (HRA.out _ (FQ.out.transNo (by repeat (first | assumption | exact Fr.refl _ _ | refine Fr.alloc ?_ _ | refine Fr.drew ?_ | refine Fr.drewN ?_ _)))).1.2.2.1, (HRA.out _ (FQ.out.transNo (by repeat (first | assumption | exact Fr.refl _ _ | refine Fr.alloc ?_ _ | refine Fr.drew ?_ | refine Fr.drewN ?_ _)))).1.2.2.2.2.2.1⟩) (fun hHeld => ?_)
        clear hK K
        try simp only [Act.put, List.setIfInBounds_toArray, List.set_cons_zero, List.set_cons_succ, List.getElem_toArray, List.getElem_cons_zero, List.getElem_cons_succ]
        refine wpAnyH_take (i := 26) (v := ?_) rfl (by kernel_rfl) (by kernel_rfl) (by kernel_rfl) (fun _ _ _ h => h) (Or.inl ⟨by rfl, ?_⟩) (by assumption) ?_
        rotate_left
        · (intro w hSw; (try dsimp only at hSw); go_simp) <;> with_reducible rfl
        simp only [Act.put, List.setIfInBounds_toArray, List.set_cons_zero, List.set_cons_succ, List.getElem_toArray, List.getElem_cons_zero, List.getElem_cons_succ]
        refine wpAnyH_take (i := 27) (v := ?_) rfl (by kernel_rfl) (by kernel_rfl) (by kernel_rfl) (fun _ _ _ h => h) (Or.inl ⟨by rfl, ?_⟩) (by assumption) ?_
        rotate_left
        · (intro w hSw; (try dsimp only at hSw); go_simp) <;> with_reducible rfl
        simp only [Act.put, List.setIfInBounds_toArray, List.set_cons_zero, List.set_cons_succ, List.getElem_toArray, List.getElem_cons_zero, List.getElem_cons_succ]
        refine wpAnyH_done (by kernel_rfl) ?_ _
        all_goals (try go_wp2_with fail)
        all_goals go_meet
        all_goals exact ⟨⟨_, rfl, trivial⟩, (by repeat (first | assumption | exact Fr.refl _ _ | refine Fr.alloc ?_ _ | refine Fr.drew ?_ | refine Fr.drewN ?_ _))⟩
      · refine wp_region_held_drew (S := (fun V => (V.cell? ⟨g1, 0, none⟩ = some (.int .i64 (rg : Int)) ∧ V.cell? ⟨g1, 1, none⟩ = some (.slice (some ⟨bz, 0, none⟩) nz cz) ∧ V.cell? ⟨g1, 2, none⟩ = some (.slice (some ⟨bc, 0, none⟩) ms cc) ∧ V.cell? ⟨g1, 3, none⟩ = some (.slice At mt ct) ∧ V.cell? ⟨g1, 4, none⟩ = some (.slice (some ⟨bv, 0, none⟩) nv cv) ∧ V.cell? ⟨g1, 5, none⟩ = some (.slice Ar nr cr) ∧ V.cell? ⟨g1, 6, none⟩ = some (.slice Ao no_ co) ∧ V.cell? ⟨g1, 7, none⟩ = some (.int .i64 bl) ∧ V.cell? ⟨g1, 8, none⟩ = some (.int .i64 (le : Int)) ∧ V.cell? ⟨g1, 9, none⟩ = some (.int .i64 (bk : Int))) ∧ (V.cell? ⟨g3, 0, none⟩ = some (.int .i64 kd) ∧ V.cell? ⟨g3, 1, none⟩ = some (.int .i64 et) ∧ V.cell? ⟨g3, 2, none⟩ = some (.int .i64 (i : Int)) ∧ V.cell? ⟨g3, 3, none⟩ = some (.int .i64 (j : Int)) ∧ V.cell? ⟨g3, 4, none⟩ = some (.int .i64 ot) ∧ V.cell? ⟨g3, 5, none⟩ = some (.int .i64 ep) ∧ V.cell? ⟨g3, 6, none⟩ = some (.int .i64 fm) ∧ V.cell? ⟨g3, 7, none⟩ = some (.int .i64 un) ∧ V.cell? ⟨g3, 8, none⟩ = some (.int .i64 n)) ∧ V.cell? ⟨bt, i * 12 + 2, none⟩ = some (.int .i64 hm) ∧ V.cell? ⟨bt, i * 12 + 5, none⟩ = some (.int .i64 tg))) (by kernel_rfl) (⟨(HKA.out _ (FQ.out.transNo (by repeat (first | assumption | exact Fr.refl _ _ | refine Fr.alloc ?_ _ | refine Fr.drew ?_ | refine Fr.drewN ?_ _)))).1, (HKA.out _ (FQ.out.transNo (by repeat (first | assumption | exact Fr.refl _ _ | refine Fr.alloc ?_ _ | refine Fr.drew ?_ | refine Fr.drewN ?_ _)))).2.2.1, (HRA.out _ (FQ.out.transNo (by repeat (first | assumption | exact Fr.refl _ _ | refine Fr.alloc ?_ _ | refine Fr.drew ?_ | refine Fr.drewN ?_ _)))).1.2.2.1, (HRA.out _ (FQ.out.transNo (by repeat (first | assumption | exact Fr.refl _ _ | refine Fr.alloc ?_ _ | refine Fr.drew ?_ | refine Fr.drewN ?_ _)))).1.2.2.2.2.2.1⟩) (fun hHeld => ?_)
        refine wpAnyH_take (i := 0) (v := ?_) rfl (by kernel_rfl) (by kernel_rfl) (by kernel_rfl) (fun _ _ _ h => h) (Or.inl ⟨by rfl, ?_⟩) (by assumption) ?_
        rotate_left
        · (intro w hSw; (try dsimp only at hSw); go_simp) <;> with_reducible rfl
        simp only [Act.put, List.setIfInBounds_toArray, List.set_cons_zero, List.set_cons_succ, List.getElem_toArray, List.getElem_cons_zero]
        refine wpAnyH_take (i := 1) (v := ?_) rfl (by kernel_rfl) (by kernel_rfl) (by kernel_rfl) (fun _ _ _ h => h) (Or.inl ⟨by rfl, ?_⟩) (by assumption) ?_
        rotate_left
        · (intro w hSw; (try dsimp only at hSw); go_simp) <;> with_reducible rfl
        simp only [Act.put, List.setIfInBounds_toArray, List.set_cons_zero, List.set_cons_succ, List.getElem_toArray, List.getElem_cons_zero, List.getElem_cons_succ]
        refine wpAnyH_take (i := 2) (v := ?_) rfl (by kernel_rfl) (by kernel_rfl) (by kernel_rfl) (fun _ _ _ h => h) (Or.inl ⟨by rfl, ?_⟩) (by assumption) ?_
        rotate_left
        · (intro w hSw; (try dsimp only at hSw); go_simp) <;> with_reducible rfl
        simp only [Act.put, List.setIfInBounds_toArray, List.set_cons_zero, List.set_cons_succ, List.getElem_toArray, List.getElem_cons_zero, List.getElem_cons_succ]
        refine wpAnyH_take (i := 3) (v := ?_) rfl (by kernel_rfl) (by kernel_rfl) (by kernel_rfl) (fun _ _ _ h => h) (Or.inl ⟨by rfl, ?_⟩) (by assumption) ?_
        rotate_left
        · (intro w hSw; (try dsimp only at hSw); go_simp) <;> with_reducible rfl
        simp only [Act.put, List.setIfInBounds_toArray, List.set_cons_zero, List.set_cons_succ, List.getElem_toArray, List.getElem_cons_zero, List.getElem_cons_succ]
        refine wpAnyH_take (i := 4) (v := ?_) rfl (by kernel_rfl) (by kernel_rfl) (by kernel_rfl) (fun _ _ _ h => h) (Or.inl ⟨by rfl, ?_⟩) (by assumption) ?_
        rotate_left
        · (intro w hSw; (try dsimp only at hSw); go_simp) <;> with_reducible rfl
        simp only [Act.put, List.setIfInBounds_toArray, List.set_cons_zero, List.set_cons_succ, List.getElem_toArray, List.getElem_cons_zero, List.getElem_cons_succ]
        refine wpAnyH_ready (rs := [5]) (by kernel_rfl) (by simp) (AllReadyH.cons rfl (fun K hK => ?_) AllReadyH.nil)
        go_simp
        refine (HBM.out _ (fW.transNo (FQ.out.transNo (by repeat (first | assumption | exact Fr.refl _ _ | refine Fr.alloc ?_ _ | refine Fr.drew ?_ | refine Fr.drewN ?_ _))))).mono ?_
        rintro e v5 ⟨rfl, f5⟩
        have Q5 : Fr No wc v5 := Fr.transNo (by repeat (first | assumption | exact Fr.refl _ _ | refine Fr.alloc ?_ _ | refine Fr.drew ?_ | refine Fr.drewN ?_ _)) f5
        clear f5
        go_wp2_with fail
        clear hHeld
        refine hK.out _ _ (⟨(HKA.out _ (FQ.out.transNo (by repeat (first | assumption | exact Fr.refl _ _ | refine Fr.alloc ?_ _ | refine Fr.drew ?_ | refine Fr.drewN ?_ _)))).1, (HKA.out _ (FQ.out.transNo (by repeat (first | assumption | exact Fr.refl _ _ | refine Fr.alloc ?_ _ | refine Fr.drew ?_ | refine Fr.drewN ?_ _)))).2.2.1, (HRA.out _ (FQ.out.transNo (by repeat (first | assumption | exact Fr.refl _ _ | refine Fr.alloc ?_ _ | refine Fr.drew ?_ | refine Fr.drewN ?_ _)))).1.2.2.1, (HRA.out _ (FQ.out.transNo (by repeat (first | assumption | exact Fr.refl _ _ | refine Fr.alloc ?_ _ | refine Fr.drew ?_ | refine Fr.drewN ?_ _)))).1.2.2.2.2.2.1⟩) (fun hHeld => ?_)
        clear hK K
        try simp only [Act.put, List.setIfInBounds_toArray, List.set_cons_zero, List.set_cons_succ, List.getElem_toArray, List.getElem_cons_zero, List.getElem_cons_succ]
        refine wpAnyH_take (i := 6) (v := ?_) rfl (by kernel_rfl) (by kernel_rfl) (by kernel_rfl) (fun _ _ _ h => h) (Or.inl ⟨by rfl, ?_⟩) (by assumption) ?_
        rotate_left
        · (intro w hSw; (try dsimp only at hSw); go_simp) <;> with_reducible rfl
        simp only [Act.put, List.setIfInBounds_toArray, List.set_cons_zero, List.set_cons_succ, List.getElem_toArray, List.getElem_cons_zero, List.getElem_cons_succ]
        refine wpAnyH_take (i := 7) (v := ?_) rfl (by kernel_rfl) (by kernel_rfl) (by kernel_rfl) (fun _ _ _ h => h) (Or.inl ⟨by rfl, ?_⟩) (by assumption) ?_
        rotate_left
        · (intro w hSw; (try dsimp only at hSw); go_simp) <;> with_reducible rfl
        simp only [Act.put, List.setIfInBounds_toArray, List.set_cons_zero, List.set_cons_succ, List.getElem_toArray, List.getElem_cons_zero, List.getElem_cons_succ]
        refine wpAnyH_take (i := 8) (v := ?_) rfl (by kernel_rfl) (by kernel_rfl) (by kernel_rfl) (fun _ _ _ h => h) (Or.inl ⟨by rfl, ?_⟩) (by assumption) ?_
        rotate_left
        · (intro w hSw; (try dsimp only at hSw); go_simp) <;> with_reducible rfl
        simp only [Act.put, List.setIfInBounds_toArray, List.set_cons_zero, List.set_cons_succ, List.getElem_toArray, List.getElem_cons_zero, List.getElem_cons_succ]
        refine wpAnyH_take (i := 9) (v := ?_) rfl (by kernel_rfl) (by kernel_rfl) (by kernel_rfl) (fun _ _ _ h => h) (Or.inl ⟨by rfl, ?_⟩) (by assumption) ?_
        rotate_left
        · (intro w hSw; (try dsimp only at hSw); go_simp) <;> with_reducible rfl
        simp only [Act.put, List.setIfInBounds_toArray, List.set_cons_zero, List.set_cons_succ, List.getElem_toArray, List.getElem_cons_zero, List.getElem_cons_succ]
        refine wpAnyH_take (i := 10) (v := ?_) rfl (by kernel_rfl) (by kernel_rfl) (by kernel_rfl) (fun _ _ _ h => h) (Or.inl ⟨by rfl, ?_⟩) (by assumption) ?_
        rotate_left
        · (intro w hSw; (try dsimp only at hSw); go_simp) <;> with_reducible rfl
        simp only [Act.put, List.setIfInBounds_toArray, List.set_cons_zero, List.set_cons_succ, List.getElem_toArray, List.getElem_cons_zero, List.getElem_cons_succ]
        refine wpAnyH_take (i := 11) (v := ?_) rfl (by kernel_rfl) (by kernel_rfl) (by kernel_rfl) (fun _ _ _ h => h) (Or.inl ⟨by rfl, ?_⟩) (by assumption) ?_
        rotate_left
        · (intro w hSw; (try dsimp only at hSw); go_simp) <;> with_reducible rfl
        simp only [Act.put, List.setIfInBounds_toArray, List.set_cons_zero, List.set_cons_succ, List.getElem_toArray, List.getElem_cons_zero, List.getElem_cons_succ]
        refine wpAnyH_take (i := 12) (v := ?_) rfl (by kernel_rfl) (by kernel_rfl) (by kernel_rfl) (fun _ _ _ h => h) (Or.inl ⟨by rfl, ?_⟩) (by assumption) ?_
        rotate_left
        · (intro w hSw; (try dsimp only at hSw); go_simp) <;> with_reducible rfl
        simp only [Act.put, List.setIfInBounds_toArray, List.set_cons_zero, List.set_cons_succ, List.getElem_toArray, List.getElem_cons_zero, List.getElem_cons_succ]
        refine wpAnyH_take (i := 13) (v := ?_) rfl (by kernel_rfl) (by kernel_rfl) (by kernel_rfl) (fun _ _ _ h => h) (Or.inl ⟨by rfl, ?_⟩) (by assumption) ?_
        rotate_left
        · (intro w hSw; (try dsimp only at hSw); go_simp) <;> with_reducible rfl
        simp only [Act.put, List.setIfInBounds_toArray, List.set_cons_zero, List.set_cons_succ, List.getElem_toArray, List.getElem_cons_zero, List.getElem_cons_succ]
        refine wpAnyH_take (i := 14) (v := ?_) rfl (by kernel_rfl) (by kernel_rfl) (by kernel_rfl) (fun _ _ _ h => h) (Or.inl ⟨by rfl, ?_⟩) (by assumption) ?_
        rotate_left
        · (intro w hSw; (try dsimp only at hSw); go_simp) <;> with_reducible rfl
        simp only [Act.put, List.setIfInBounds_toArray, List.set_cons_zero, List.set_cons_succ, List.getElem_toArray, List.getElem_cons_zero, List.getElem_cons_succ]
        refine wpAnyH_ready (rs := [15]) (by kernel_rfl) (by simp) (AllReadyH.cons rfl (fun K hK => ?_) AllReadyH.nil)
        go_simp
        refine (HB1.out _ (fW.transNo (FQ.out.transNo (by repeat (first | assumption | exact Fr.refl _ _ | refine Fr.alloc ?_ _ | refine Fr.drew ?_ | refine Fr.drewN ?_ _))))).mono ?_
        rintro e v6 ⟨rfl, f5⟩
        have Q6 : Fr No wc v6 := Fr.transNo (by repeat (first | assumption | exact Fr.refl _ _ | refine Fr.alloc ?_ _ | refine Fr.drew ?_ | refine Fr.drewN ?_ _)) f5
        clear f5
        go_wp2_with fail
        clear hHeld
        refine hK.out _ _ (⟨(HKA.out _ (FQ.out.transNo (by repeat (first | assumption | exact Fr.refl _ _ | refine Fr.alloc ?_ _ | refine Fr.drew ?_ | refine Fr.drewN ?_ _)))).1, (HKA.out _ (FQ.out.transNo (by repeat (first | assumption | exact Fr.refl _ _ | refine Fr.alloc ?_ _ | refine Fr.drew ?_ | refine Fr.drewN ?_ _)))).2.2.1, (HRA.out _ (FQ.out.transNo (by repeat (first | assumption | exact Fr.refl _ _ | refine Fr.alloc ?_ _ | refine Fr.drew ?_ | refine Fr.drewN ?_ _)))).1.2.2.1, (HRA.out _ (FQ.out.transNo (by repeat (first | assumption | exact Fr.refl _ _ | refine Fr.alloc ?_ _ | refine Fr.drew ?_ | refine Fr.drewN ?_ _)))).1.2.2.2.2.2.1⟩) (fun hHeld => ?_)
        clear hK K
        try simp only [Act.put, List.setIfInBounds_toArray, List.set_cons_zero, List.set_cons_succ, List.getElem_toArray, List.getElem_cons_zero, List.getElem_cons_succ]
        refine wpAnyH_take (i := 16) (v := ?_) rfl (by kernel_rfl) (by kernel_rfl) (by kernel_rfl) (fun _ _ _ h => h) (Or.inl ⟨by rfl, ?_⟩) (by assumption) ?_
        rotate_left
        · (intro w hSw; (try dsimp only at hSw); go_simp) <;> with_reducible rfl
        simp only [Act.put, List.setIfInBounds_toArray, List.set_cons_zero, List.set_cons_succ, List.getElem_toArray, List.getElem_cons_zero, List.getElem_cons_succ]
        refine wpAnyH_take (i := 17) (v := ?_) rfl (by kernel_rfl) (by kernel_rfl) (by kernel_rfl) (fun _ _ _ h => h) (Or.inl ⟨by rfl, ?_⟩) (by assumption) ?_
        rotate_left
        · (intro w hSw; (try dsimp only at hSw); go_simp) <;> with_reducible rfl
        simp only [Act.put, List.setIfInBounds_toArray, List.set_cons_zero, List.set_cons_succ, List.getElem_toArray, List.getElem_cons_zero, List.getElem_cons_succ]
        refine wpAnyH_take (i := 18) (v := undef) rfl (by kernel_rfl) (by kernel_rfl) (by kernel_rfl) (fun _ _ _ h => h) (Or.inr ⟨by rfl, rfl⟩) (by assumption) ?_
        simp only [Act.put, List.setIfInBounds_toArray, List.set_cons_zero, List.set_cons_succ, List.getElem_toArray, List.getElem_cons_zero, List.getElem_cons_succ]
        refine wpAnyH_take (i := 19) (v := undef) rfl (by kernel_rfl) (by kernel_rfl) (by kernel_rfl) (fun _ _ _ h => h) (Or.inr ⟨by rfl, rfl⟩) (by assumption) ?_
        simp only [Act.put, List.setIfInBounds_toArray, List.set_cons_zero, List.set_cons_succ, List.getElem_toArray, List.getElem_cons_zero, List.getElem_cons_succ]
        refine wpAnyH_take (i := 20) (v := undef) rfl (by kernel_rfl) (by kernel_rfl) (by kernel_rfl) (fun _ _ _ h => h) (Or.inr ⟨by rfl, rfl⟩) (by assumption) ?_
        simp only [Act.put, List.setIfInBounds_toArray, List.set_cons_zero, List.set_cons_succ, List.getElem_toArray, List.getElem_cons_zero, List.getElem_cons_succ]
        refine wpAnyH_take (i := 21) (v := undef) rfl (by kernel_rfl) (by kernel_rfl) (by kernel_rfl) (fun _ _ _ h => h) (Or.inr ⟨by rfl, rfl⟩) (by assumption) ?_
        simp only [Act.put, List.setIfInBounds_toArray, List.set_cons_zero, List.set_cons_succ, List.getElem_toArray, List.getElem_cons_zero, List.getElem_cons_succ]
        refine wpAnyH_take (i := 22) (v := undef) rfl (by kernel_rfl) (by kernel_rfl) (by kernel_rfl) (fun _ _ _ h => h) (Or.inr ⟨by rfl, rfl⟩) (by assumption) ?_
        simp only [Act.put, List.setIfInBounds_toArray, List.set_cons_zero, List.set_cons_succ, List.getElem_toArray, List.getElem_cons_zero, List.getElem_cons_succ]
        refine wpAnyH_take (i := 23) (v := undef) rfl (by kernel_rfl) (by kernel_rfl) (by kernel_rfl) (fun _ _ _ h => h) (Or.inr ⟨by rfl, rfl⟩) (by assumption) ?_
        simp only [Act.put, List.setIfInBounds_toArray, List.set_cons_zero, List.set_cons_succ, List.getElem_toArray, List.getElem_cons_zero, List.getElem_cons_succ]
        refine wpAnyH_take (i := 24) (v := undef) rfl (by kernel_rfl) (by kernel_rfl) (by kernel_rfl) (fun _ _ _ h => h) (Or.inr ⟨by rfl, rfl⟩) (by assumption) ?_
        simp only [Act.put, List.setIfInBounds_toArray, List.set_cons_zero, List.set_cons_succ, List.getElem_toArray, List.getElem_cons_zero, List.getElem_cons_succ]
        refine wpAnyH_take (i := 25) (v := undef) rfl (by kernel_rfl) (by kernel_rfl) (by kernel_rfl) (fun _ _ _ h => h) (Or.inr ⟨by rfl, rfl⟩) (by assumption) ?_
        simp only [Act.put, List.setIfInBounds_toArray, List.set_cons_zero, List.set_cons_succ, List.getElem_toArray, List.getElem_cons_zero, List.getElem_cons_succ]
        refine wpAnyH_take (i := 26) (v := ?_) rfl (by kernel_rfl) (by kernel_rfl) (by kernel_rfl) (fun _ _ _ h => h) (Or.inl ⟨by rfl, ?_⟩) (by assumption) ?_
        rotate_left
        · (intro w hSw; (try dsimp only at hSw); go_simp) <;> with_reducible rfl
        simp only [Act.put, List.setIfInBounds_toArray, List.set_cons_zero, List.set_cons_succ, List.getElem_toArray, List.getElem_cons_zero, List.getElem_cons_succ]
        refine wpAnyH_take (i := 27) (v := ?_) rfl (by kernel_rfl) (by kernel_rfl) (by kernel_rfl) (fun _ _ _ h => h) (Or.inl ⟨by rfl, ?_⟩) (by assumption) ?_
        rotate_left
        · (intro w hSw; (try dsimp only at hSw); go_simp) <;> with_reducible rfl
        simp only [Act.put, List.setIfInBounds_toArray, List.set_cons_zero, List.set_cons_succ, List.getElem_toArray, List.getElem_cons_zero, List.getElem_cons_succ]
        refine wpAnyH_done (by kernel_rfl) ?_ _
        all_goals (try go_wp2_with fail)
        all_goals go_meet
        all_goals exact ⟨⟨_, rfl, trivial⟩, (by repeat (first | assumption | exact Fr.refl _ _ | refine Fr.alloc ?_ _ | refine Fr.drew ?_ | refine Fr.drewN ?_ _))⟩
  obtain ⟨⟨B, rfl, hB⟩, hcf⟩ := hcut
  replace FQ := Lib.hid (FQ.out.transNo hcf)
  clear hcf
  clear e0 e1 e2 e3 e4 e5 e6 e7 e8 e9 s0 s1 s2 s3 s4 s5 s6 s7 x0 x1 x2 x3 x4 x5 x6 x7 x8 z0 z1 z2 z3 z4 z5 z6 z7 r0 r1 r2 r3 r4 r5 r6 r7 r8 r9 r10 r11 hfz d0 d1 d2 d3
  obtain ⟨⟨e0, e1, e2, e3, e4, e5, e6, e7, e8, e9⟩, ⟨s0, s1, s2, s3, s4, s5, s6, s7⟩, ⟨x0, x1, x2, x3, x4, x5, x6, x7, x8⟩, ⟨z0, z1, z2, z3, z4, z5, z6, z7⟩⟩ := HKA.out wc FQ.out
  obtain ⟨⟨r0, r1, r2, r3, r4, r5, r6, r7, r8, r9, r10, r11⟩, hfz⟩ := HRA.out wc FQ.out
  obtain ⟨d0, d1, d2, d3⟩ := HCA.out wc FQ.out
  rcases B with _ | _
  rotate_left
  · go_wp2_with fail
    refine (no_any _ _).mono ?_
    rintro e w9 ⟨rfl, f9⟩
    have hz9 := HZ.out w9 (FQ.out.transNo f9)
    have f8 := fW.transNo (FQ.out.transNo f9)
    obtain ⟨z0, z1, z2, z3, z4, z5, z6, z7⟩ := st_cells (s := stZero) hz9
    simp only at z0 z1 z2 z3 z4 z5 z6 z7
    have q0 := hz9.frozen 0
    have q1 := hz9.frozen 1
    have q2 := hz9.frozen 2
    have q3 := hz9.frozen 3
    have q4 := hz9.frozen 4
    have q5 := hz9.frozen 5
    have q6 := hz9.frozen 6
    have q7 := hz9.frozen 7
    have HZ9 := Lib.hid hz9
    have F8 := Lib.hid f8
    clear hz9 f8
    go_wp2_with fail
    exact bodyPost_ret (v := .tuple #[.agg stZero.arr, .int .i64 11]) (standby_results stZero 11 g4 _ _ (st_fill (z := stZero) stZero HZ9.out) rfl rfl) rfl (StTo.no (by decide) ((st_fill_fr stZero F8.out hgz).mono fun _ h => h.elim) rfl)
  have hro9 := HROW.out.frNo (fW.transNo FQ.out)
  have hro9 := hro9.setA (t' := ⟨pl, sh, hm, sb, (j : Int), tg, tp, wc_, we, wv, wf, wu⟩) (u := (.int .i64 (j : Int))) (a := i * 12 + 4) (j := 4) (by decide) (by omega) rfl
  have hok9 := hro9.ok ⟨HTO.out.hm, HTO.out.sb, ⟨by show (-1 : Int) ≤ (j : Int); omega, by show (j : Int) < (ms : Int); omega⟩, HTO.out.tg, HTO.out.pl, HTO.out.sh, HTO.out.nu⟩
  have f9 : Fr G w ((wc).setCell ⟨bt, i * 12 + 4, none⟩ (.int .i64 (j : Int))) := ((fW.transNo FQ.out).mono (fun _ h => h.elim)).setCell (p := ⟨bt, i * 12 + 4, none⟩) (.inl hgb) _
  have hz9 := (HZ.out wc FQ.out).fr (fr_set _ ⟨bt, i * 12 + 4, none⟩ (.int .i64 (j : Int))) hm4
  have q0 := (HZ.out wc FQ.out).frozen 0
  have q1 := (HZ.out wc FQ.out).frozen 1
  have q2 := (HZ.out wc FQ.out).frozen 2
  have q3 := (HZ.out wc FQ.out).frozen 3
  have q4 := (HZ.out wc FQ.out).frozen 4
  have q5 := (HZ.out wc FQ.out).frozen 5
  have q6 := (HZ.out wc FQ.out).frozen 6
  have q7 := (HZ.out wc FQ.out).frozen 7
  have HRO9 := Lib.hid hro9
  have HOK9 := Lib.hid hok9
  have F9 := Lib.hid f9
  have HZ9 := Lib.hid hz9
  clear hro9 hok9 f9 hz9
  have hcf9 := HCF.out _ F9.out
  have hft := fit_any (s := ⟨tk, cn, some ⟨bt, 0, none⟩, mt, dt, (some ⟨bs, 0, none⟩), ms, ds, pr, ev, lo, hi⟩) hcf9 HOK9.out
  have HFT := Lib.hid hft
  clear hft
  clear hcf9
  go_wp2_with fail
  refine HFT.out.mono ?_
  rintro e w9 ⟨⟨atk, acn, aBt, amt, adt, aBs, ams, ads, apr, aev, alo, ahi⟩, ak, rfl, hok, f10⟩
  have hz10 := HZ9.out.fr f10 (fun h => h)
  have T9 := Lib.hid (StTo.fillK (s := ⟨atk, acn, aBt, amt, adt, aBs, ams, ads, apr, aev, alo, ahi⟩) (q := g4) (k := ak) (e := .returned (.tuple #[.agg (St.arr ⟨atk, acn, aBt, amt, adt, aBs, ams, ads, apr, aev, alo, ahi⟩), .int .i64 ak])) hok (F9.out.afterNo f10) hgz hG rfl)
  have T8 := Lib.hid (st_fill (q := g4) (z := stZero) ⟨atk, acn, aBt, amt, adt, aBs, ams, ads, apr, aev, alo, ahi⟩ hz10)
  have p0 := hz10.frozen 0
  have p1 := hz10.frozen 1
  have p2 := hz10.frozen 2
  have p3 := hz10.frozen 3
  have p4 := hz10.frozen 4
  have p5 := hz10.frozen 5
  have p6 := hz10.frozen 6
  have p7 := hz10.frozen 7
  obtain ⟨y0, y1, y2, y3, y4, y5, y6, y7⟩ := st_cells (s := stZero) hz10
  simp only at y0 y1 y2 y3 y4 y5 y6 y7
  clear hok f10 hz10 HOK9 F9 HZ9 HRO9 HFT q0 q1 q2 q3 q4 q5 q6 q7
  go_wp2_with fail
  exact bodyPost_ret (v := .tuple #[.agg (St.arr ⟨atk, acn, aBt, amt, adt, aBs, ams, ads, apr, aev, alo, ahi⟩), .int .i64 ak]) (standby_results ⟨atk, acn, aBt, amt, adt, aBs, ams, ads, apr, aev, alo, ahi⟩ ak g4 _ _ T8.out rfl rfl) rfl T9.out
set_option maxRecDepth 100000 in
set_option maxHeartbeats 8000000 in
theorem standby_neg {w : World} {G : Nat → Prop} {c : Cf} {s : St} (hc : ∀ W, Fr G w W → CfOk W c) (hs : StOk w G c s) (hG : ∀ i, G i → i < w.heap.size) (e : En) (ht1 : 0 ≤ e.tenant) (ht2 : e.tenant < c.nt) (hn1 : e.cell = -1) :
    Calls Tryd.prog 69 #[.agg c.arr, .agg s.arr, .agg (EnArr e)] w (StTo w G G c) := by
  obtain ⟨i, hi, hil⟩ := nat_of ht1 ht2
  obtain ⟨bt, t, hto, hrow⟩ := hs.row hil
  have h1 := hrow.bt
  have hgb := hrow.gb
  have hbt := hrow.lt
  have hst := fun W (hf : Fr No w W) => hs.frNo hf
  have hcf := hc
  have h := hc w (Fr.refl _ _)
  have hms := hs.ms
  have hmt := hs.mt
  obtain ⟨rg, nz, nc, nt, nv, le, bk, bz, bc, bv, cz, cc, ct, cv, At, Ar, nr, cr, Ao, no_, co, bl⟩ := c
  obtain ⟨tk, cn, Bt, mt, dt, Bs, ms, ds, pr, ev, lo, hi⟩ := s
  obtain ⟨kd, et, tn, cl, ot, ep, fm, un, n⟩ := e
  obtain ⟨pl, sh, hm, sb, nx, tg, tp, wc_, we, wv, wf, wu⟩ := t
  simp only at *
  subst hms hmt
  subst h1 hi hn1
  have hix : (0 : Int) ≤ (i : Int) ∧ (i : Int) < (mt : Int) := by omega
  clear hs h hc ht1 ht2
  obtain ⟨w1, hw1⟩ : ∃ w1, w1 = w.alloc (.cells #[.int .i64 (rg : Int), .slice (some ⟨bz, 0, none⟩) nz cz, .slice (some ⟨bc, 0, none⟩) ms cc, .slice At mt ct, .slice (some ⟨bv, 0, none⟩) nv cv, .slice Ar nr cr, .slice Ao no_ co, .int .i64 bl, .int .i64 (le : Int), .int .i64 (bk : Int)] TCf) := ⟨_, rfl⟩
  obtain ⟨g1, hg1⟩ : ∃ g1, g1 = w.heap.size := ⟨_, rfl⟩
  have hb1 : Blk w1 g1 TCf #[.int .i64 (rg : Int), .slice (some ⟨bz, 0, none⟩) nz cz, .slice (some ⟨bc, 0, none⟩) ms cc, .slice At mt ct, .slice (some ⟨bv, 0, none⟩) nv cv, .slice Ar nr cr, .slice Ao no_ co, .int .i64 bl, .int .i64 (le : Int), .int .i64 (bk : Int)] := by rw [hw1, hg1]; exact Blk.new _ _ _
  have f1 : Fr No w w1 := by rw [hw1]; exact fr_alloc _ _
  have hs1 : w1.heap.size = g1 + 1 := by rw [hw1, hg1]; simp
  obtain ⟨w2, hw2⟩ : ∃ w2, w2 = w1.alloc (.cells #[.int .i64 tk, .int .i64 cn, .slice (some ⟨bt, 0, none⟩) mt dt, .slice Bs ms ds, .int .i64 pr, .int .i64 ev, .int .i64 lo, .int .i64 hi] TSt) := ⟨_, rfl⟩
  obtain ⟨g2, hg2⟩ : ∃ g2, g2 = w1.heap.size := ⟨_, rfl⟩
  have hb2 : Blk w2 g2 TSt #[.int .i64 tk, .int .i64 cn, .slice (some ⟨bt, 0, none⟩) mt dt, .slice Bs ms ds, .int .i64 pr, .int .i64 ev, .int .i64 lo, .int .i64 hi] := by rw [hw2, hg2]; exact Blk.new _ _ _
  have f2 : Fr No w1 w2 := by rw [hw2]; exact fr_alloc _ _
  have hs2 : w2.heap.size = g2 + 1 := by rw [hw2, hg2]; simp
  obtain ⟨w3, hw3⟩ : ∃ w3, w3 = w2.alloc (.cells #[.int .i64 kd, .int .i64 et, .int .i64 (i : Int), .int .i64 (-1), .int .i64 ot, .int .i64 ep, .int .i64 fm, .int .i64 un, .int .i64 n] TEm) := ⟨_, rfl⟩
  obtain ⟨g3, hg3⟩ : ∃ g3, g3 = w2.heap.size := ⟨_, rfl⟩
  have hb3 : Blk w3 g3 TEm #[.int .i64 kd, .int .i64 et, .int .i64 (i : Int), .int .i64 (-1), .int .i64 ot, .int .i64 ep, .int .i64 fm, .int .i64 un, .int .i64 n] := by rw [hw3, hg3]; exact Blk.new _ _ _
  have f3 : Fr No w2 w3 := by rw [hw3]; exact fr_alloc _ _
  have hs3 : w3.heap.size = g3 + 1 := by rw [hw3, hg3]; simp
  obtain ⟨w4, hw4⟩ : ∃ w4, w4 = w3.alloc (.cells #[.int .i64 0, .int .i64 0, .slice none 0 0, .slice none 0 0, .int .i64 0, .int .i64 0, .int .i64 0, .int .i64 0] TSt) := ⟨_, rfl⟩
  obtain ⟨g4, hg4⟩ : ∃ g4, g4 = w3.heap.size := ⟨_, rfl⟩
  have hb4 : Blk w4 g4 TSt #[.int .i64 0, .int .i64 0, .slice none 0 0, .slice none 0 0, .int .i64 0, .int .i64 0, .int .i64 0, .int .i64 0] := by rw [hw4, hg4]; exact Blk.new _ _ _
  have f4 : Fr No w3 w4 := by rw [hw4]; exact fr_alloc _ _
  have hs4 : w4.heap.size = g4 + 1 := by rw [hw4, hg4]; simp
  have hB1 : Blk w4 g1 TCf #[.int .i64 (rg : Int), .slice (some ⟨bz, 0, none⟩) nz cz, .slice (some ⟨bc, 0, none⟩) ms cc, .slice At mt ct, .slice (some ⟨bv, 0, none⟩) nv cv, .slice Ar nr cr, .slice Ao no_ co, .int .i64 bl, .int .i64 (le : Int), .int .i64 (bk : Int)] := hb1.fr ((((Fr.refl No _).transNo f2).transNo f3).transNo f4) (fun h => h)
  have hB2 : Blk w4 g2 TSt #[.int .i64 tk, .int .i64 cn, .slice (some ⟨bt, 0, none⟩) mt dt, .slice Bs ms ds, .int .i64 pr, .int .i64 ev, .int .i64 lo, .int .i64 hi] := hb2.fr (((Fr.refl No _).transNo f3).transNo f4) (fun h => h)
  have hB3 : Blk w4 g3 TEm #[.int .i64 kd, .int .i64 et, .int .i64 (i : Int), .int .i64 (-1), .int .i64 ot, .int .i64 ep, .int .i64 fm, .int .i64 un, .int .i64 n] := hb3.fr ((Fr.refl No _).transNo f4) (fun h => h)
  have hB4 : Blk w4 g4 TSt #[.int .i64 0, .int .i64 0, .slice none 0 0, .slice none 0 0, .int .i64 0, .int .i64 0, .int .i64 0, .int .i64 0] := hb4.fr (Fr.refl No _) (fun h => h)
  have fW : Fr No w w4 := ((((Fr.refl No w).transNo f1).transNo f2).transNo f3).transNo f4
  have he2 : g2 = g1 + 1 := by rw [hg2, hs1]
  have he3 : g3 = g1 + 2 := by rw [hg3, hs2]; rw [he2]
  have he4 : g4 = g1 + 3 := by rw [hg4, hs3]; rw [he3]
  have hka : ∀ V, Fr No w4 V → (V.cell? ⟨g1, 0, none⟩ = some (.int .i64 (rg : Int)) ∧ V.cell? ⟨g1, 1, none⟩ = some (.slice (some ⟨bz, 0, none⟩) nz cz) ∧ V.cell? ⟨g1, 2, none⟩ = some (.slice (some ⟨bc, 0, none⟩) ms cc) ∧ V.cell? ⟨g1, 3, none⟩ = some (.slice At mt ct) ∧ V.cell? ⟨g1, 4, none⟩ = some (.slice (some ⟨bv, 0, none⟩) nv cv) ∧ V.cell? ⟨g1, 5, none⟩ = some (.slice Ar nr cr) ∧ V.cell? ⟨g1, 6, none⟩ = some (.slice Ao no_ co) ∧ V.cell? ⟨g1, 7, none⟩ = some (.int .i64 bl) ∧ V.cell? ⟨g1, 8, none⟩ = some (.int .i64 (le : Int)) ∧ V.cell? ⟨g1, 9, none⟩ = some (.int .i64 (bk : Int))) ∧ (V.cell? ⟨g2, 0, none⟩ = some (.int .i64 tk) ∧ V.cell? ⟨g2, 1, none⟩ = some (.int .i64 cn) ∧ V.cell? ⟨g2, 2, none⟩ = some (.slice (some ⟨bt, 0, none⟩) mt dt) ∧ V.cell? ⟨g2, 3, none⟩ = some (.slice Bs ms ds) ∧ V.cell? ⟨g2, 4, none⟩ = some (.int .i64 pr) ∧ V.cell? ⟨g2, 5, none⟩ = some (.int .i64 ev) ∧ V.cell? ⟨g2, 6, none⟩ = some (.int .i64 lo) ∧ V.cell? ⟨g2, 7, none⟩ = some (.int .i64 hi)) ∧ (V.cell? ⟨g3, 0, none⟩ = some (.int .i64 kd) ∧ V.cell? ⟨g3, 1, none⟩ = some (.int .i64 et) ∧ V.cell? ⟨g3, 2, none⟩ = some (.int .i64 (i : Int)) ∧ V.cell? ⟨g3, 3, none⟩ = some (.int .i64 (-1)) ∧ V.cell? ⟨g3, 4, none⟩ = some (.int .i64 ot) ∧ V.cell? ⟨g3, 5, none⟩ = some (.int .i64 ep) ∧ V.cell? ⟨g3, 6, none⟩ = some (.int .i64 fm) ∧ V.cell? ⟨g3, 7, none⟩ = some (.int .i64 un) ∧ V.cell? ⟨g3, 8, none⟩ = some (.int .i64 n)) ∧ (V.cell? ⟨g4, 0, none⟩ = some (.int .i64 0) ∧ V.cell? ⟨g4, 1, none⟩ = some (.int .i64 0) ∧ V.cell? ⟨g4, 2, none⟩ = some (.slice none 0 0) ∧ V.cell? ⟨g4, 3, none⟩ = some (.slice none 0 0) ∧ V.cell? ⟨g4, 4, none⟩ = some (.int .i64 0) ∧ V.cell? ⟨g4, 5, none⟩ = some (.int .i64 0) ∧ V.cell? ⟨g4, 6, none⟩ = some (.int .i64 0) ∧ V.cell? ⟨g4, 7, none⟩ = some (.int .i64 0)) := fun V hf => ⟨(let k := hB1.fr hf (fun h => h); ⟨k.cell 0, k.cell 1, k.cell 2, k.cell 3, k.cell 4, k.cell 5, k.cell 6, k.cell 7, k.cell 8, k.cell 9⟩), (let k := hB2.fr hf (fun h => h); ⟨k.cell 0, k.cell 1, k.cell 2, k.cell 3, k.cell 4, k.cell 5, k.cell 6, k.cell 7⟩), (let k := hB3.fr hf (fun h => h); ⟨k.cell 0, k.cell 1, k.cell 2, k.cell 3, k.cell 4, k.cell 5, k.cell 6, k.cell 7, k.cell 8⟩), (let k := hB4.fr hf (fun h => h); ⟨k.cell 0, k.cell 1, k.cell 2, k.cell 3, k.cell 4, k.cell 5, k.cell 6, k.cell 7⟩)⟩
  have hW : w4 = (((w.alloc (.cells #[.int .i64 (rg : Int), .slice (some ⟨bz, 0, none⟩) nz cz, .slice (some ⟨bc, 0, none⟩) ms cc, .slice At mt ct, .slice (some ⟨bv, 0, none⟩) nv cv, .slice Ar nr cr, .slice Ao no_ co, .int .i64 bl, .int .i64 (le : Int), .int .i64 (bk : Int)] TCf)).alloc (.cells #[.int .i64 tk, .int .i64 cn, .slice (some ⟨bt, 0, none⟩) mt dt, .slice Bs ms ds, .int .i64 pr, .int .i64 ev, .int .i64 lo, .int .i64 hi] TSt)).alloc (.cells #[.int .i64 kd, .int .i64 et, .int .i64 (i : Int), .int .i64 (-1), .int .i64 ot, .int .i64 ep, .int .i64 fm, .int .i64 un, .int .i64 n] TEm)).alloc (.cells #[.int .i64 0, .int .i64 0, .slice none 0 0, .slice none 0 0, .int .i64 0, .int .i64 0, .int .i64 0, .int .i64 0] TSt) := by rw [hw4, hw3, hw2, hw1]
  have hl1 : g1 < w4.heap.size := hB1.lt
  have hl2 : g2 < w4.heap.size := hB2.lt
  have hl3 : g3 < w4.heap.size := hB3.lt
  have hl4 : g4 < w4.heap.size := hB4.lt
  clear hw1 hb1 hs1 hw2 hb2 hs2 hw3 hb3 hs3 hw4 hb4 hs4
  have HG1 := Lib.hid hg1
  have HG2 := Lib.hid hg2
  have HG3 := Lib.hid hg3
  have HG4 := Lib.hid hg4
  have HE2 := Lib.hid he2
  have HE3 := Lib.hid he3
  have HE4 := Lib.hid he4
  clear hg1 hg2 hg3 hg4 he2 he3 he4
  have hra := fun V (hV : Fr No w4 V) => hrow.at_ V (fW.transNo hV)
  have hz := fun V (hV : Fr No w4 V) => hB4.fr hV (fun h => h)
  have hgz : w.heap.size ≤ g4 := by rw [HE4.out, HG1.out]; omega
  have hbt3 : bt < w4.heap.size := Nat.lt_of_lt_of_le hbt fW.size
  have hn1 : bt ≠ g1 := by have := HG1.out; omega
  have hn2 : bt ≠ g2 := by have := HG1.out; have := HE2.out; omega
  have hn3 : bt ≠ g3 := by have := HG1.out; have := HE3.out; omega
  have hn4 : bt ≠ g4 := by have := HG1.out; have := HE4.out; omega
  have hm1 : g1 ≠ bt := fun h => hn1 h.symm
  have hm2 : g2 ≠ bt := fun h => hn2 h.symm
  have hm3 : g3 ≠ bt := fun h => hn3 h.symm
  have hm4 : g4 ≠ bt := fun h => hn4 h.symm
  have HST := Lib.hid hst
  have HCF := Lib.hid hcf
  have HKA := Lib.hid hka
  have HW := Lib.hid hW
  have HRA := Lib.hid hra
  have HZ := Lib.hid hz
  have HTO := Lib.hid hto
  have HROW := Lib.hid hrow
  clear hst hcf hka hW hra hz hto hrow
  go_enter Tryd.func69, Tryd.ntmps69
  go_upto_region 1 with fail
  rw [← HW.out]
  try rw [← show g4 = w.heap.size + 3 from by rw [HE4.out, HG1.out]]
  try rw [← show g3 = w.heap.size + 2 from by rw [HE3.out, HG1.out]]
  try rw [← show g2 = w.heap.size + 1 from by rw [HE2.out, HG1.out]]
  try rw [← HG1.out]
  have FQ := Lib.hid (Fr.refl No w4)
  obtain ⟨⟨e0, e1, e2, e3, e4, e5, e6, e7, e8, e9⟩, ⟨s0, s1, s2, s3, s4, s5, s6, s7⟩, ⟨x0, x1, x2, x3, x4, x5, x6, x7, x8⟩, ⟨z0, z1, z2, z3, z4, z5, z6, z7⟩⟩ := HKA.out w4 FQ.out
  obtain ⟨⟨r0, r1, r2, r3, r4, r5, r6, r7, r8, r9, r10, r11⟩, hfz⟩ := HRA.out w4 FQ.out
  go_upto_region 2 with fail
  go_cut [14] from 15 to 19 (fun x wx => (∃ B : Bool, x = .bool B ∧ (True)) ∧ Fr No w4 wx)
  case first =>
    rcases pl with _ | _
    all_goals (try go_wp2_with fail)
    all_goals go_meet
    all_goals exact ⟨⟨_, rfl, trivial⟩, (by repeat (first | assumption | exact Fr.refl _ _ | refine Fr.alloc ?_ _ | refine Fr.drew ?_ | refine Fr.drewN ?_ _))⟩
  obtain ⟨⟨B, rfl, hB⟩, hcf⟩ := hcut
  replace FQ := Lib.hid (FQ.out.transNo hcf)
  clear hcf
  clear e0 e1 e2 e3 e4 e5 e6 e7 e8 e9 s0 s1 s2 s3 s4 s5 s6 s7 x0 x1 x2 x3 x4 x5 x6 x7 x8 z0 z1 z2 z3 z4 z5 z6 z7 r0 r1 r2 r3 r4 r5 r6 r7 r8 r9 r10 r11 hfz
  obtain ⟨⟨e0, e1, e2, e3, e4, e5, e6, e7, e8, e9⟩, ⟨s0, s1, s2, s3, s4, s5, s6, s7⟩, ⟨x0, x1, x2, x3, x4, x5, x6, x7, x8⟩, ⟨z0, z1, z2, z3, z4, z5, z6, z7⟩⟩ := HKA.out wc FQ.out
  obtain ⟨⟨r0, r1, r2, r3, r4, r5, r6, r7, r8, r9, r10, r11⟩, hfz⟩ := HRA.out wc FQ.out
  rcases B with _ | _
  rotate_left
  · go_wp2_with fail
    refine (no_any _ _).mono ?_
    rintro e w9 ⟨rfl, f9⟩
    have hz9 := HZ.out w9 (FQ.out.transNo f9)
    have f8 := fW.transNo (FQ.out.transNo f9)
    obtain ⟨z0, z1, z2, z3, z4, z5, z6, z7⟩ := st_cells (s := stZero) hz9
    simp only at z0 z1 z2 z3 z4 z5 z6 z7
    have q0 := hz9.frozen 0
    have q1 := hz9.frozen 1
    have q2 := hz9.frozen 2
    have q3 := hz9.frozen 3
    have q4 := hz9.frozen 4
    have q5 := hz9.frozen 5
    have q6 := hz9.frozen 6
    have q7 := hz9.frozen 7
    have HZ9 := Lib.hid hz9
    have F8 := Lib.hid f8
    clear hz9 f8
    go_wp2_with fail
    exact bodyPost_ret (v := .tuple #[.agg stZero.arr, .int .i64 4]) (standby_results stZero 4 g4 _ _ (st_fill (z := stZero) stZero HZ9.out) rfl rfl) rfl (StTo.no (by decide) ((st_fill_fr stZero F8.out hgz).mono fun _ h => h.elim) rfl)
  have hro9 := HROW.out.frNo (fW.transNo FQ.out)
  have hro9 := hro9.setA (t' := ⟨pl, sh, hm, sb, (-1), tg, tp, wc_, we, wv, wf, wu⟩) (u := (.int .i64 (-1))) (a := i * 12 + 4) (j := 4) (by decide) (by omega) rfl
  have hok9 := hro9.ok ⟨HTO.out.hm, HTO.out.sb, ⟨Int.le_refl _, by show (-1 : Int) < (ms : Int); omega⟩, HTO.out.tg, HTO.out.pl, HTO.out.sh, HTO.out.nu⟩
  have f9 : Fr G w ((wc).setCell ⟨bt, i * 12 + 4, none⟩ (.int .i64 (-1))) := ((fW.transNo FQ.out).mono (fun _ h => h.elim)).setCell (p := ⟨bt, i * 12 + 4, none⟩) (.inl hgb) _
  have hz9 := (HZ.out wc FQ.out).fr (fr_set _ ⟨bt, i * 12 + 4, none⟩ (.int .i64 (-1))) hm4
  have q0 := (HZ.out wc FQ.out).frozen 0
  have q1 := (HZ.out wc FQ.out).frozen 1
  have q2 := (HZ.out wc FQ.out).frozen 2
  have q3 := (HZ.out wc FQ.out).frozen 3
  have q4 := (HZ.out wc FQ.out).frozen 4
  have q5 := (HZ.out wc FQ.out).frozen 5
  have q6 := (HZ.out wc FQ.out).frozen 6
  have q7 := (HZ.out wc FQ.out).frozen 7
  have HRO9 := Lib.hid hro9
  have HOK9 := Lib.hid hok9
  have F9 := Lib.hid f9
  have HZ9 := Lib.hid hz9
  clear hro9 hok9 f9 hz9
  have hcf9 := HCF.out _ F9.out
  have hft := fit_any (s := ⟨tk, cn, some ⟨bt, 0, none⟩, mt, dt, Bs, ms, ds, pr, ev, lo, hi⟩) hcf9 HOK9.out
  have HFT := Lib.hid hft
  clear hft
  clear hcf9
  go_wp2_with fail
  refine HFT.out.mono ?_
  rintro e w9 ⟨⟨atk, acn, aBt, amt, adt, aBs, ams, ads, apr, aev, alo, ahi⟩, ak, rfl, hok, f10⟩
  have hz10 := HZ9.out.fr f10 (fun h => h)
  have T9 := Lib.hid (StTo.fillK (s := ⟨atk, acn, aBt, amt, adt, aBs, ams, ads, apr, aev, alo, ahi⟩) (q := g4) (k := ak) (e := .returned (.tuple #[.agg (St.arr ⟨atk, acn, aBt, amt, adt, aBs, ams, ads, apr, aev, alo, ahi⟩), .int .i64 ak])) hok (F9.out.afterNo f10) hgz hG rfl)
  have T8 := Lib.hid (st_fill (q := g4) (z := stZero) ⟨atk, acn, aBt, amt, adt, aBs, ams, ads, apr, aev, alo, ahi⟩ hz10)
  have p0 := hz10.frozen 0
  have p1 := hz10.frozen 1
  have p2 := hz10.frozen 2
  have p3 := hz10.frozen 3
  have p4 := hz10.frozen 4
  have p5 := hz10.frozen 5
  have p6 := hz10.frozen 6
  have p7 := hz10.frozen 7
  obtain ⟨y0, y1, y2, y3, y4, y5, y6, y7⟩ := st_cells (s := stZero) hz10
  simp only at y0 y1 y2 y3 y4 y5 y6 y7
  clear hok f10 hz10 HOK9 F9 HZ9 HRO9 HFT q0 q1 q2 q3 q4 q5 q6 q7
  go_wp2_with fail
  exact bodyPost_ret (v := .tuple #[.agg (St.arr ⟨atk, acn, aBt, amt, adt, aBs, ams, ads, apr, aev, alo, ahi⟩), .int .i64 ak]) (standby_results ⟨atk, acn, aBt, amt, adt, aBs, ams, ads, apr, aev, alo, ahi⟩ ak g4 _ _ T8.out rfl rfl) rfl T9.out
end Go.Proofs.YtanhbebikcoliaaDoor
