/-
  Several texts in one: Fo, Em.
-/
import Derived.Test.YtanhbebikcoliaaDoorApB
/- Fold. -/
namespace Go.Proofs.YtanhbebikcoliaaDoor
open Go.ChangeShapes Go.WideShapes Go.ChangeAt Go.RowKit
set_option linter.unusedVariables false
theorem blk_type {w : World} {b g : Nat} {t u : TypeId} {cs ds : Array Value} (h : Blk w b t cs) (k : Blk w g u ds) (hne : t ≠ u) : b ≠ g := by
  rintro rfl
  unfold Blk at h k
  rw [h] at k
  injection k with k
  injection k with _ k
  exact hne k
/-- A box of a state is written: the rows stay. -/
theorem StOk.box {w w' : World} {F G : Nat → Prop} {c : Cf} {s : St} (h : StOk w G c s) (hf : Fr F w w') (hF : ∀ i, F i → ∃ cs, Blk w i TSt cs) : StOk w' G c s := by
  obtain ⟨h1, h2, h3, h4, ⟨b, cur, h5, h6, h7, h8⟩, h9, h10⟩ := h
  refine ⟨h1, h2, h3, h4, ⟨b, cur, h5, h6, h7.fr hf (fun hb => by obtain ⟨cs, hc⟩ := hF b hb; exact blk_type h7 hc (by decide) rfl), h8⟩, h9.imp id ?_, h10⟩
  rintro ⟨b, cur, h5, h6, h7, h8⟩
  exact ⟨b, cur, h5, h6, h7.fr hf (fun hb => by obtain ⟨cs, hc⟩ := hF b hb; exact blk_type h7 hc (by decide) rfl), h8⟩
/-- A state's box is given another state. -/
theorem box_put {W : World} {q : Nat} {z : St} (s : St) (h : Blk W q TSt z.arr) : Blk (World.setCell (World.setCell (World.setCell (World.setCell (World.setCell (World.setCell (World.setCell (World.setCell W ⟨q, 0, none⟩ (.int .i64 s.tk)) ⟨q, 1, none⟩ (.int .i64 s.cn)) ⟨q, 2, none⟩ (.slice s.Bt s.mt s.dt)) ⟨q, 3, none⟩ (.slice s.Bs s.ms s.ds)) ⟨q, 4, none⟩ (.int .i64 s.pr)) ⟨q, 5, none⟩ (.int .i64 s.ev)) ⟨q, 6, none⟩ (.int .i64 s.lo)) ⟨q, 7, none⟩ (.int .i64 s.hi)) q TSt s.arr ∧ Fr (fun i => i = q) W (World.setCell (World.setCell (World.setCell (World.setCell (World.setCell (World.setCell (World.setCell (World.setCell W ⟨q, 0, none⟩ (.int .i64 s.tk)) ⟨q, 1, none⟩ (.int .i64 s.cn)) ⟨q, 2, none⟩ (.slice s.Bt s.mt s.dt)) ⟨q, 3, none⟩ (.slice s.Bs s.ms s.ds)) ⟨q, 4, none⟩ (.int .i64 s.pr)) ⟨q, 5, none⟩ (.int .i64 s.ev)) ⟨q, 6, none⟩ (.int .i64 s.lo)) ⟨q, 7, none⟩ (.int .i64 s.hi)) := ⟨st_fill s h, (Fr.setCell (Fr.setCell (Fr.setCell (Fr.setCell (Fr.setCell (Fr.setCell (Fr.setCell (Fr.setCell (Fr.refl (fun i => i = q) W) (p := ⟨q, 0, none⟩) (.inl rfl) _) (p := ⟨q, 1, none⟩) (.inl rfl) _) (p := ⟨q, 2, none⟩) (.inl rfl) _) (p := ⟨q, 3, none⟩) (.inl rfl) _) (p := ⟨q, 4, none⟩) (.inl rfl) _) (p := ⟨q, 5, none⟩) (.inl rfl) _) (p := ⟨q, 6, none⟩) (.inl rfl) _) (p := ⟨q, 7, none⟩) (.inl rfl) _)⟩
theorem StOk.putBox {W : World} {q : Nat} {z : St} {G : Nat → Prop} {c : Cf} {s' : St} (hok : StOk W G c s') (s : St) (h : Blk W q TSt z.arr) : StOk (World.setCell (World.setCell (World.setCell (World.setCell (World.setCell (World.setCell (World.setCell (World.setCell W ⟨q, 0, none⟩ (.int .i64 s.tk)) ⟨q, 1, none⟩ (.int .i64 s.cn)) ⟨q, 2, none⟩ (.slice s.Bt s.mt s.dt)) ⟨q, 3, none⟩ (.slice s.Bs s.ms s.ds)) ⟨q, 4, none⟩ (.int .i64 s.pr)) ⟨q, 5, none⟩ (.int .i64 s.ev)) ⟨q, 6, none⟩ (.int .i64 s.lo)) ⟨q, 7, none⟩ (.int .i64 s.hi)) G c s' := hok.box (box_put s h).2 fun i hi => by have hi : i = q := hi; subst hi; exact ⟨_, h⟩
/-- Entries that are read. -/
def EnRow (w : World) (A : Option Addr) (n : Nat) : Prop := ∀ i, i < n → ∃ (b : Nat) (e : En), A = some ⟨b, 0, none⟩ ∧ b < w.heap.size ∧ ∀ V, Fr No w V → V.cell? ⟨b, i * 9, none⟩ = some (.int .i64 e.kind) ∧ V.cell? ⟨b, i * 9 + 1, none⟩ = some (.int .i64 e.tick) ∧ V.cell? ⟨b, i * 9 + 2, none⟩ = some (.int .i64 e.tenant) ∧ V.cell? ⟨b, i * 9 + 3, none⟩ = some (.int .i64 e.cell) ∧ V.cell? ⟨b, i * 9 + 4, none⟩ = some (.int .i64 e.other) ∧ V.cell? ⟨b, i * 9 + 5, none⟩ = some (.int .i64 e.epoch) ∧ V.cell? ⟨b, i * 9 + 6, none⟩ = some (.int .i64 e.from_) ∧ V.cell? ⟨b, i * 9 + 7, none⟩ = some (.int .i64 e.until_) ∧ V.cell? ⟨b, i * 9 + 8, none⟩ = some (.int .i64 e.n)
theorem EnRow.fr {w w' : World} {A : Option Addr} {n : Nat} (h : EnRow w A n) (hf : Fr No w w') : EnRow w' A n := fun i hi => let ⟨b, e, h1, h2, h3⟩ := h i hi; ⟨b, e, h1, Nat.lt_of_lt_of_le h2 hf.size, fun V hV => h3 V (hf.transNo hV)⟩
def FoTo (w : World) (c : Cf) (e : Ending) (w' : World) : Prop := ∃ (s : St) (i k : Int), e = .returned (.tuple #[.agg s.arr, .int .i64 i, .int .i64 k]) ∧ StOk w' (fun i => w.heap.size ≤ i ∧ i < w'.heap.size) c s ∧ Fr No w w'
theorem fold_results (s : St) (i k : Int) (g : Nat) (ts : Array Value) (W : World) (hb : Blk W g TSt s.arr) (h2 : ts[4]?.getD undef = .pointer (some ⟨g, 0, none⟩)) (h3 : ts[5]?.getD undef = .int .i64 i) (h4 : ts[6]?.getD undef = .int .i64 k) :
    (results Tryd.f43 ts).run Tryd.prog W = .ok (.tuple #[.agg s.arr, .int .i64 i, .int .i64 k]) W := by
  obtain ⟨c0, c1, c2, c3, c4, c5, c6, c7⟩ := st_cells hb
  clear hb
  simp [results, Tryd.results43, go_sem, h2, h3, h4, c0, c1, c2, c3, c4, c5, c6, c7]
/-- Fold under way: boxes of the configuration (g1), of the answer (g2), of the state (g3). -/
structure FoS (w : World) (g1 g2 g3 : Nat) (c : Cf) (wr : World) (s : St) : Prop where
  cb : Blk wr g1 TCf c.arr
  zb : Blk wr g2 TSt stZero.arr
  sb : Blk wr g3 TSt s.arr
  ok : StOk wr (fun i => w.heap.size ≤ i) c s
  fr : Fr No w wr
theorem FoS.put {w : World} {g1 g2 g3 : Nat} {c : Cf} {W wr : World} {s s' : St} (h : FoS w g1 g2 g3 c wr s) (hf : Fr No wr W) (hok : StOk W (fun i => w.heap.size ≤ i) c s') (h3 : w.heap.size ≤ g3) (hne : g2 ≠ g3) : FoS w g1 g2 g3 c (World.setCell (World.setCell (World.setCell (World.setCell (World.setCell (World.setCell (World.setCell (World.setCell W ⟨g3, 0, none⟩ (.int .i64 s'.tk)) ⟨g3, 1, none⟩ (.int .i64 s'.cn)) ⟨g3, 2, none⟩ (.slice s'.Bt s'.mt s'.dt)) ⟨g3, 3, none⟩ (.slice s'.Bs s'.ms s'.ds)) ⟨g3, 4, none⟩ (.int .i64 s'.pr)) ⟨g3, 5, none⟩ (.int .i64 s'.ev)) ⟨g3, 6, none⟩ (.int .i64 s'.lo)) ⟨g3, 7, none⟩ (.int .i64 s'.hi)) s' := by
  obtain ⟨k1, k2⟩ := box_put s' (h.sb.fr hf (fun h => h))
  refine ⟨(h.cb.fr hf (fun h => h)).fr k2 (fun e => blk_type h.cb h.sb (by decide) e), (h.zb.fr hf (fun h => h)).fr k2 hne, k1, hok.putBox s' (h.sb.fr hf (fun h => h)), (h.fr.transNo hf).transNew k2 fun i hi => by have hi : i = g3 := hi; omega⟩
theorem FoTo.fill {w : World} {g1 g2 g3 : Nat} {c : Cf} {wr : World} {s : St} (h : FoS w g1 g2 g3 c wr s) (h2 : w.heap.size ≤ g2) (i k : Int) : FoTo w c (.returned (.tuple #[.agg s.arr, .int .i64 i, .int .i64 k])) (World.setCell (World.setCell (World.setCell (World.setCell (World.setCell (World.setCell (World.setCell (World.setCell wr ⟨g2, 0, none⟩ (.int .i64 s.tk)) ⟨g2, 1, none⟩ (.int .i64 s.cn)) ⟨g2, 2, none⟩ (.slice s.Bt s.mt s.dt)) ⟨g2, 3, none⟩ (.slice s.Bs s.ms s.ds)) ⟨g2, 4, none⟩ (.int .i64 s.pr)) ⟨g2, 5, none⟩ (.int .i64 s.ev)) ⟨g2, 6, none⟩ (.int .i64 s.lo)) ⟨g2, 7, none⟩ (.int .i64 s.hi)) :=
  ⟨s, i, k, rfl, (h.ok.putBox s h.zb).bound, h.fr.transNew (box_put s h.zb).2 fun i hi => by have hi : i = g2 := hi; omega⟩
/-- What Apply answers in the round: a new box with a state, a number. -/
def FoN (w wr : World) (c : Cf) (p x : Value) (wx : World) : Prop := ∃ (g9 : Nat) (s : St) (k : Int), p = .pointer (some ⟨g9, 0, none⟩) ∧ x = .int .i64 k ∧ Blk wx g9 TSt s.arr ∧ (k = 0 → StOk wx (fun i => w.heap.size ≤ i) c s) ∧ Fr No wr wx ∧ wr.heap.size ≤ g9
theorem FoN.a {w wr v5 : World} {c : Cf} (s : St) (k : Int) (hok : k = 0 → StOk v5 (fun i => w.heap.size ≤ i) c s) (hf : Fr No wr v5) : FoN w wr c (.pointer (some ⟨v5.heap.size, 0, none⟩)) (.int .i64 k) (v5.alloc (.cells s.arr TSt)) :=
  ⟨_, s, k, rfl, rfl, Blk.new _ _ _, fun hk => (hok hk).frNo (fr_alloc _ _), hf.alloc _, hf.size⟩
theorem FoN.b {w wr v5 : World} {c : Cf} (s : St) (k : Int) (hz : Blk v5 wr.heap.size TSt stZero.arr) (hok : k = 0 → StOk v5 (fun i => w.heap.size ≤ i) c s) (hf : Fr No wr v5) : FoN w wr c (.pointer (some ⟨wr.heap.size, 0, none⟩)) (.int .i64 k) (World.setCell (World.setCell (World.setCell (World.setCell (World.setCell (World.setCell (World.setCell (World.setCell v5 ⟨wr.heap.size, 0, none⟩ (.int .i64 s.tk)) ⟨wr.heap.size, 1, none⟩ (.int .i64 s.cn)) ⟨wr.heap.size, 2, none⟩ (.slice s.Bt s.mt s.dt)) ⟨wr.heap.size, 3, none⟩ (.slice s.Bs s.ms s.ds)) ⟨wr.heap.size, 4, none⟩ (.int .i64 s.pr)) ⟨wr.heap.size, 5, none⟩ (.int .i64 s.ev)) ⟨wr.heap.size, 6, none⟩ (.int .i64 s.lo)) ⟨wr.heap.size, 7, none⟩ (.int .i64 s.hi)) :=
  ⟨_, s, k, rfl, rfl, st_fill s hz, fun hk => (hok hk).putBox s hz, hf.transNew (box_put s hz).2 (fun i hi => by have hi : i = wr.heap.size := hi; omega), Nat.le_refl _⟩
set_option maxRecDepth 100000 in
set_option maxHeartbeats 4000000 in
theorem fold_any {w : World} {c : Cf} (h : CfOk w c) {A : Option Addr} {n cap : Nat} (hl : EnRow w A n) (hn : n ≤ 1000) :
    Calls Tryd.prog 43 #[.agg c.arr, .slice A n cap] w (FoTo w c) := by
  have hnw := fun W => newm_any (w := W) (c := c) h.nc1 h.nv1 h.nt2 h.nc2
  have hap := fun W (hf : Fr No w W) (G : Nat → Prop) (s : St) (hs : StOk W G c s) (e : En) => apply_any (h.frNo hf) hs e
  obtain ⟨rg, nz, nc, nt, nv, le, bk, bz, bc, bv, cz, cc, ct, cv, At, Ar, nr, cr, Ao, no_, co, bl⟩ := c
  (try simp only at *)
  clear h
  obtain ⟨w1, hw1⟩ : ∃ w1, w1 = w.alloc (.cells #[.int .i64 (rg : Int), .slice (some ⟨bz, 0, none⟩) nz cz, .slice (some ⟨bc, 0, none⟩) nc cc, .slice At nt ct, .slice (some ⟨bv, 0, none⟩) nv cv, .slice Ar nr cr, .slice Ao no_ co, .int .i64 bl, .int .i64 (le : Int), .int .i64 (bk : Int)] TCf) := ⟨_, rfl⟩
  obtain ⟨g1, hg1⟩ : ∃ g1, g1 = w.heap.size := ⟨_, rfl⟩
  have hb1 : Blk w1 g1 TCf #[.int .i64 (rg : Int), .slice (some ⟨bz, 0, none⟩) nz cz, .slice (some ⟨bc, 0, none⟩) nc cc, .slice At nt ct, .slice (some ⟨bv, 0, none⟩) nv cv, .slice Ar nr cr, .slice Ao no_ co, .int .i64 bl, .int .i64 (le : Int), .int .i64 (bk : Int)] := by rw [hw1, hg1]; exact Blk.new _ _ _
  have f1 : Fr No w w1 := by rw [hw1]; exact fr_alloc _ _
  have hs1 : w1.heap.size = g1 + 1 := by rw [hw1, hg1]; simp
  obtain ⟨w2, hw2⟩ : ∃ w2, w2 = w1.alloc (.cells #[.int .i64 0, .int .i64 0, .slice none 0 0, .slice none 0 0, .int .i64 0, .int .i64 0, .int .i64 0, .int .i64 0] TSt) := ⟨_, rfl⟩
  obtain ⟨g2, hg2⟩ : ∃ g2, g2 = w1.heap.size := ⟨_, rfl⟩
  have hb2 : Blk w2 g2 TSt #[.int .i64 0, .int .i64 0, .slice none 0 0, .slice none 0 0, .int .i64 0, .int .i64 0, .int .i64 0, .int .i64 0] := by rw [hw2, hg2]; exact Blk.new _ _ _
  have f2 : Fr No w1 w2 := by rw [hw2]; exact fr_alloc _ _
  have hs2 : w2.heap.size = g2 + 1 := by rw [hw2, hg2]; simp
  have hB1 : Blk w2 g1 TCf #[.int .i64 (rg : Int), .slice (some ⟨bz, 0, none⟩) nz cz, .slice (some ⟨bc, 0, none⟩) nc cc, .slice At nt ct, .slice (some ⟨bv, 0, none⟩) nv cv, .slice Ar nr cr, .slice Ao no_ co, .int .i64 bl, .int .i64 (le : Int), .int .i64 (bk : Int)] := hb1.fr ((Fr.refl No _).transNo f2) (fun h => h)
  have hB2 : Blk w2 g2 TSt #[.int .i64 0, .int .i64 0, .slice none 0 0, .slice none 0 0, .int .i64 0, .int .i64 0, .int .i64 0, .int .i64 0] := hb2.fr (Fr.refl No _) (fun h => h)
  have fW : Fr No w w2 := ((Fr.refl No w).transNo f1).transNo f2
  have he2 : g2 = g1 + 1 := by rw [hg2, hs1]
  have hka : ∀ V, Fr No w2 V → (V.cell? ⟨g1, 0, none⟩ = some (.int .i64 (rg : Int)) ∧ V.cell? ⟨g1, 1, none⟩ = some (.slice (some ⟨bz, 0, none⟩) nz cz) ∧ V.cell? ⟨g1, 2, none⟩ = some (.slice (some ⟨bc, 0, none⟩) nc cc) ∧ V.cell? ⟨g1, 3, none⟩ = some (.slice At nt ct) ∧ V.cell? ⟨g1, 4, none⟩ = some (.slice (some ⟨bv, 0, none⟩) nv cv) ∧ V.cell? ⟨g1, 5, none⟩ = some (.slice Ar nr cr) ∧ V.cell? ⟨g1, 6, none⟩ = some (.slice Ao no_ co) ∧ V.cell? ⟨g1, 7, none⟩ = some (.int .i64 bl) ∧ V.cell? ⟨g1, 8, none⟩ = some (.int .i64 (le : Int)) ∧ V.cell? ⟨g1, 9, none⟩ = some (.int .i64 (bk : Int))) ∧ (V.cell? ⟨g2, 0, none⟩ = some (.int .i64 0) ∧ V.cell? ⟨g2, 1, none⟩ = some (.int .i64 0) ∧ V.cell? ⟨g2, 2, none⟩ = some (.slice none 0 0) ∧ V.cell? ⟨g2, 3, none⟩ = some (.slice none 0 0) ∧ V.cell? ⟨g2, 4, none⟩ = some (.int .i64 0) ∧ V.cell? ⟨g2, 5, none⟩ = some (.int .i64 0) ∧ V.cell? ⟨g2, 6, none⟩ = some (.int .i64 0) ∧ V.cell? ⟨g2, 7, none⟩ = some (.int .i64 0)) := fun V hf => ⟨(let k := hB1.fr hf (fun h => h); ⟨k.cell 0, k.cell 1, k.cell 2, k.cell 3, k.cell 4, k.cell 5, k.cell 6, k.cell 7, k.cell 8, k.cell 9⟩), (let k := hB2.fr hf (fun h => h); ⟨k.cell 0, k.cell 1, k.cell 2, k.cell 3, k.cell 4, k.cell 5, k.cell 6, k.cell 7⟩)⟩
  have hW : w2 = (w.alloc (.cells #[.int .i64 (rg : Int), .slice (some ⟨bz, 0, none⟩) nz cz, .slice (some ⟨bc, 0, none⟩) nc cc, .slice At nt ct, .slice (some ⟨bv, 0, none⟩) nv cv, .slice Ar nr cr, .slice Ao no_ co, .int .i64 bl, .int .i64 (le : Int), .int .i64 (bk : Int)] TCf)).alloc (.cells #[.int .i64 0, .int .i64 0, .slice none 0 0, .slice none 0 0, .int .i64 0, .int .i64 0, .int .i64 0, .int .i64 0] TSt) := by rw [hw2, hw1]
  have hl1 : g1 < w2.heap.size := hB1.lt
  have hl2 : g2 < w2.heap.size := hB2.lt
  clear hw1 hb1 hs1 hw2 hb2 hs2
  have HG1 := Lib.hid hg1
  have HG2 := Lib.hid hg2
  have HE2 := Lib.hid he2
  clear hg1 hg2 he2
  have hgz : w.heap.size ≤ g2 := by rw [HE2.out, HG1.out]; omega
  have hcb := fun V (hV : Fr No w2 V) => hB1.fr hV (fun h => h)
  have hzb := fun V (hV : Fr No w2 V) => hB2.fr hV (fun h => h)
  have HNW := Lib.hid hnw
  have HAP := Lib.hid hap
  have HKA := Lib.hid hka
  have HW := Lib.hid hW
  have HCB := Lib.hid hcb
  have HZB := Lib.hid hzb
  have HL := Lib.hid hl
  clear hnw hap hka hW hcb hzb hl
  go_enter Tryd.func43, Tryd.ntmps43
  go_upto_region 1 with fail
  rw [← HW.out]
  try rw [← show g2 = w.heap.size + 1 from by rw [HE2.out, HG1.out]]
  try rw [← HG1.out]
  obtain ⟨⟨e0, e1, e2, e3, e4, e5, e6, e7, e8, e9⟩, ⟨z0, z1, z2, z3, z4, z5, z6, z7⟩⟩ := HKA.out w2 (Fr.refl _ _)
  go_wp2_with fail
  refine (HNW.out _).mono ?_
  rintro r v3 ⟨⟨tk0, cn0, Bt0, mt0, dt0, Bs0, ms0, ds0, pr0, ev0, lo0, hi0⟩, rfl, hok, f3⟩
  go_upto_region 3 with fail
  obtain ⟨w3, hw3⟩ : ∃ w3, w3 = v3.alloc (.cells #[.int .i64 tk0, .int .i64 cn0, .slice Bt0 mt0 dt0, .slice Bs0 ms0 ds0, .int .i64 pr0, .int .i64 ev0, .int .i64 lo0, .int .i64 hi0] TSt) := ⟨_, rfl⟩
  obtain ⟨g3, hg3⟩ : ∃ g3, g3 = v3.heap.size := ⟨_, rfl⟩
  have hwz := f3.size
  have hg3w : w.heap.size ≤ g3 := by have := fW.size; omega
  have hne : g2 ≠ g3 := by omega
  have hs0 : FoS w g1 g2 g3 ⟨rg, nz, nc, nt, nv, le, bk, bz, bc, bv, cz, cc, ct, cv, At, Ar, nr, cr, Ao, no_, co, bl⟩ w3 ⟨tk0, cn0, Bt0, mt0, dt0, Bs0, ms0, ds0, pr0, ev0, lo0, hi0⟩ := by
    have fa : Fr No v3 w3 := by rw [hw3]; exact fr_alloc _ _
    refine ⟨HCB.out _ (f3.transNo fa), HZB.out _ (f3.transNo fa), by rw [hw3, hg3]; exact Blk.new _ _ _, (hok.mono (F := fun i => w.heap.size ≤ i) (fun i hi => Nat.le_trans fW.size hi.1)).frNo fa, fW.transNo (f3.transNo fa)⟩
  rw [← hw3, ← hg3]
  clear hw3 hg3 hok f3 hwz e0 e1 e2 e3 e4 e5 e6 e7 e8 e9 z0 z1 z2 z3 z4 z5 z6 z7
  have HS0 := Lib.hid hs0
  clear hs0
  go_wp2_with fail
  go_loopw [8] (fun i wr => ∃ k : Nat, k ≤ n ∧ i = .int .i64 k ∧ ∃ s, FoS w g1 g2 g3 ⟨rg, nz, nc, nt, nv, le, bk, bz, bc, bv, cz, cc, ct, cv, At, Ar, nr, cr, Ao, no_, co, bl⟩ wr s) (fun i _ => n - (intOf i).toNat)
  case atStart => exact ⟨0, Nat.zero_le _, rfl, _, HS0.out⟩
  clear HS0
  obtain ⟨k, hk, rfl, ⟨tk, cn, Bt, mt, dt, Bs, ms, ds, pr, ev, lo, hi⟩, hr⟩ := hrel
  obtain ⟨s0, s1, s2, s3, s4, s5, s6, s7⟩ := st_cells hr.sb
  simp only at s0 s1 s2 s3 s4 s5 s6 s7
  obtain ⟨z0, z1, z2, z3, z4, z5, z6, z7⟩ := st_cells (s := stZero) hr.zb
  simp only at z0 z1 z2 z3 z4 z5 z6 z7
  have q0 := hr.zb.frozen 0
  have q1 := hr.zb.frozen 1
  have q2 := hr.zb.frozen 2
  have q3 := hr.zb.frozen 3
  have q4 := hr.zb.frozen 4
  have q5 := hr.zb.frozen 5
  have q6 := hr.zb.frozen 6
  have q7 := hr.zb.frozen 7
  obtain ⟨e0, e1, e2, e3, e4, e5, e6, e7, e8, e9⟩ : wr.cell? ⟨g1, 0, none⟩ = some (.int .i64 (rg : Int)) ∧ wr.cell? ⟨g1, 1, none⟩ = some (.slice (some ⟨bz, 0, none⟩) nz cz) ∧ wr.cell? ⟨g1, 2, none⟩ = some (.slice (some ⟨bc, 0, none⟩) nc cc) ∧ wr.cell? ⟨g1, 3, none⟩ = some (.slice At nt ct) ∧ wr.cell? ⟨g1, 4, none⟩ = some (.slice (some ⟨bv, 0, none⟩) nv cv) ∧ wr.cell? ⟨g1, 5, none⟩ = some (.slice Ar nr cr) ∧ wr.cell? ⟨g1, 6, none⟩ = some (.slice Ao no_ co) ∧ wr.cell? ⟨g1, 7, none⟩ = some (.int .i64 bl) ∧ wr.cell? ⟨g1, 8, none⟩ = some (.int .i64 (le : Int)) ∧ wr.cell? ⟨g1, 9, none⟩ = some (.int .i64 (bk : Int)) := let k := hr.cb; ⟨k.cell 0, k.cell 1, k.cell 2, k.cell 3, k.cell 4, k.cell 5, k.cell 6, k.cell 7, k.cell 8, k.cell 9⟩
  by_cases hlt : k < n
  · have b1 : decide (k < n) = true := decide_eq_true hlt
    have b2 : decide ((k : Int) < (n : Int)) = true := decide_eq_true (by omega)
    have hix : (0 : Int) ≤ (k : Int) ∧ (k : Int) < (n : Int) := by omega
    obtain ⟨b, ⟨kd, et, tn, cl, ot, ep, fm, un, m⟩, rfl, hbl, hrow⟩ := HL.out k hlt
    simp only at hrow
    have hka2 := fun V (hV : Fr No wr V) => (⟨let k := hr.cb.fr hV (fun h => h); ⟨k.cell 0, k.cell 1, k.cell 2, k.cell 3, k.cell 4, k.cell 5, k.cell 6, k.cell 7, k.cell 8, k.cell 9⟩, st_cells (hr.sb.fr hV (fun h => h)), hrow V (hr.fr.transNo hV)⟩ : (V.cell? ⟨g1, 0, none⟩ = some (.int .i64 (rg : Int)) ∧ V.cell? ⟨g1, 1, none⟩ = some (.slice (some ⟨bz, 0, none⟩) nz cz) ∧ V.cell? ⟨g1, 2, none⟩ = some (.slice (some ⟨bc, 0, none⟩) nc cc) ∧ V.cell? ⟨g1, 3, none⟩ = some (.slice At nt ct) ∧ V.cell? ⟨g1, 4, none⟩ = some (.slice (some ⟨bv, 0, none⟩) nv cv) ∧ V.cell? ⟨g1, 5, none⟩ = some (.slice Ar nr cr) ∧ V.cell? ⟨g1, 6, none⟩ = some (.slice Ao no_ co) ∧ V.cell? ⟨g1, 7, none⟩ = some (.int .i64 bl) ∧ V.cell? ⟨g1, 8, none⟩ = some (.int .i64 (le : Int)) ∧ V.cell? ⟨g1, 9, none⟩ = some (.int .i64 (bk : Int))) ∧ (V.cell? ⟨g3, 0, none⟩ = some (.int .i64 tk) ∧ V.cell? ⟨g3, 1, none⟩ = some (.int .i64 cn) ∧ V.cell? ⟨g3, 2, none⟩ = some (.slice Bt mt dt) ∧ V.cell? ⟨g3, 3, none⟩ = some (.slice Bs ms ds) ∧ V.cell? ⟨g3, 4, none⟩ = some (.int .i64 pr) ∧ V.cell? ⟨g3, 5, none⟩ = some (.int .i64 ev) ∧ V.cell? ⟨g3, 6, none⟩ = some (.int .i64 lo) ∧ V.cell? ⟨g3, 7, none⟩ = some (.int .i64 hi)) ∧ (V.cell? ⟨b, k * 9, none⟩ = some (.int .i64 kd) ∧ V.cell? ⟨b, k * 9 + 1, none⟩ = some (.int .i64 et) ∧ V.cell? ⟨b, k * 9 + 2, none⟩ = some (.int .i64 tn) ∧ V.cell? ⟨b, k * 9 + 3, none⟩ = some (.int .i64 cl) ∧ V.cell? ⟨b, k * 9 + 4, none⟩ = some (.int .i64 ot) ∧ V.cell? ⟨b, k * 9 + 5, none⟩ = some (.int .i64 ep) ∧ V.cell? ⟨b, k * 9 + 6, none⟩ = some (.int .i64 fm) ∧ V.cell? ⟨b, k * 9 + 7, none⟩ = some (.int .i64 un) ∧ V.cell? ⟨b, k * 9 + 8, none⟩ = some (.int .i64 m)))
    have hap2 := fun V (hV : Fr No wr V) => HAP.out V (hr.fr.transNo hV) _ _ (hr.ok.frNo hV) ⟨kd, et, tn, cl, ot, ep, fm, un, m⟩
    have hgw := hr.fr.size
    obtain ⟨⟨e0', e1', e2', e3', e4', e5', e6', e7', e8', e9'⟩, -, ⟨x0, x1, x2, x3, x4, x5, x6, x7, x8⟩⟩ := hka2 wr (Fr.refl _ _)
    clear e0' e1' e2' e3' e4' e5' e6' e7' e8' e9' hrow
    have HKA2 := Lib.hid hka2
    have HAP2 := Lib.hid hap2
    have HR := Lib.hid hr
    clear hka2 hap2 hr
    go_upto_region 5 with fail
    go_cut [9, 10] from 19 to 28 (fun p x wx => FoN w wr ⟨rg, nz, nc, nt, nv, le, bk, bz, bc, bv, cz, cc, ct, cv, At, Ar, nr, cr, Ao, no_, co, bl⟩ p x wx)
    case first =>
      go_region_held3 (fun V => Fr No wr V ∧ (V.cell? ⟨g1, 0, none⟩ = some (.int .i64 (rg : Int)) ∧ V.cell? ⟨g1, 1, none⟩ = some (.slice (some ⟨bz, 0, none⟩) nz cz) ∧ V.cell? ⟨g1, 2, none⟩ = some (.slice (some ⟨bc, 0, none⟩) nc cc) ∧ V.cell? ⟨g1, 3, none⟩ = some (.slice At nt ct) ∧ V.cell? ⟨g1, 4, none⟩ = some (.slice (some ⟨bv, 0, none⟩) nv cv) ∧ V.cell? ⟨g1, 5, none⟩ = some (.slice Ar nr cr) ∧ V.cell? ⟨g1, 6, none⟩ = some (.slice Ao no_ co) ∧ V.cell? ⟨g1, 7, none⟩ = some (.int .i64 bl) ∧ V.cell? ⟨g1, 8, none⟩ = some (.int .i64 (le : Int)) ∧ V.cell? ⟨g1, 9, none⟩ = some (.int .i64 (bk : Int))) ∧ (V.cell? ⟨g3, 0, none⟩ = some (.int .i64 tk) ∧ V.cell? ⟨g3, 1, none⟩ = some (.int .i64 cn) ∧ V.cell? ⟨g3, 2, none⟩ = some (.slice Bt mt dt) ∧ V.cell? ⟨g3, 3, none⟩ = some (.slice Bs ms ds) ∧ V.cell? ⟨g3, 4, none⟩ = some (.int .i64 pr) ∧ V.cell? ⟨g3, 5, none⟩ = some (.int .i64 ev) ∧ V.cell? ⟨g3, 6, none⟩ = some (.int .i64 lo) ∧ V.cell? ⟨g3, 7, none⟩ = some (.int .i64 hi)) ∧ (V.cell? ⟨b, k * 9, none⟩ = some (.int .i64 kd) ∧ V.cell? ⟨b, k * 9 + 1, none⟩ = some (.int .i64 et) ∧ V.cell? ⟨b, k * 9 + 2, none⟩ = some (.int .i64 tn) ∧ V.cell? ⟨b, k * 9 + 3, none⟩ = some (.int .i64 cl) ∧ V.cell? ⟨b, k * 9 + 4, none⟩ = some (.int .i64 ot) ∧ V.cell? ⟨b, k * 9 + 5, none⟩ = some (.int .i64 ep) ∧ V.cell? ⟨b, k * 9 + 6, none⟩ = some (.int .i64 fm) ∧ V.cell? ⟨b, k * 9 + 7, none⟩ = some (.int .i64 un) ∧ V.cell? ⟨b, k * 9 + 8, none⟩ = some (.int .i64 m))) (first | (refine ⟨?_, HKA2.out _ ?_⟩ <;> (with_reducible ((repeat (first | assumption | exact Fr.refl _ _ | refine Fr.alloc ?_ _ | refine Fr.drew ?_ | refine Fr.drewN ?_ _)); done))) | (have hB := Q5.transNew (box_put ⟨atk, acn, aBt, amt, adt, aBs, ams, ads, apr, aev, alo, ahi⟩ HZ9.out).2 (fun i hi => by have hi : i = wr.heap.size := hi; omega); exact ⟨hB, HKA2.out _ hB⟩) | (have hB := (Q5.transNew (box_put ⟨atk, acn, aBt, amt, adt, aBs, ams, ads, apr, aev, alo, ahi⟩ HZ9.out).2 (fun i hi => by have hi : i = wr.heap.size := hi; omega)).drew; exact ⟨hB, HKA2.out _ hB⟩)) (first
        | (go_at_call 58; refine (HAP2.out _ (by repeat (first | assumption | exact Fr.refl _ _ | refine Fr.alloc ?_ _ | refine Fr.drew ?_ | refine Fr.drewN ?_ _))).mono ?_; rintro r v5 ⟨⟨atk, acn, aBt, amt, adt, aBs, ams, ads, apr, aev, alo, ahi⟩, ak, rfl, hok, f5⟩; have Q5 : Fr No wr v5 := Fr.transNo (by repeat (first | assumption | exact Fr.refl _ _ | refine Fr.alloc ?_ _ | refine Fr.drew ?_ | refine Fr.drewN ?_ _)) f5; have HOK := Lib.hid hok; first | (have hz9 := (Blk.drewn (Blk.new wr TSt stZero.arr)).fr f5 (fun h => h); obtain ⟨y0, y1, y2, y3, y4, y5, y6, y7⟩ := st_cells (s := stZero) hz9; simp only at y0 y1 y2 y3 y4 y5 y6 y7; have p0 := hz9.frozen 0; have p1 := hz9.frozen 1; have p2 := hz9.frozen 2; have p3 := hz9.frozen 3; have p4 := hz9.frozen 4; have p5 := hz9.frozen 5; have p6 := hz9.frozen 6; have p7 := hz9.frozen 7; have HZ9 := Lib.hid hz9; clear hz9) | skip))
      all_goals go_wp2_with fail
      all_goals go_meet
      all_goals have hok9 : ak = 0 → StOk v5 (fun i => w.heap.size ≤ i) ⟨rg, nz, nc, nt, nv, le, bk, bz, bc, bv, cz, cc, ct, cv, At, Ar, nr, cr, Ao, no_, co, bl⟩ ⟨atk, acn, aBt, amt, adt, aBs, ams, ads, apr, aev, alo, ahi⟩ := fun hk => (HOK.out hk).mono (fun i hi => by have := hi.1; simp at this; omega)
      · exact FoN.a ⟨atk, acn, aBt, amt, adt, aBs, ams, ads, apr, aev, alo, ahi⟩ ak hok9 Q5
      · exact FoN.b ⟨atk, acn, aBt, amt, adt, aBs, ams, ads, apr, aev, alo, ahi⟩ ak HZ9.out hok9 Q5
    obtain ⟨g9, ⟨atk, acn, aBt, amt, adt, aBs, ams, ads, apr, aev, alo, ahi⟩, ak, rfl, rfl, hb9, hok9, f9, hg9⟩ := hcut
    clear x0 x1 x2 x3 x4 x5 x6 x7 x8 s0 s1 s2 s3 s4 s5 s6 s7 z0 z1 z2 z3 z4 z5 z6 z7 q0 q1 q2 q3 q4 q5 q6 q7 e0 e1 e2 e3 e4 e5 e6 e7 e8 e9
    obtain ⟨-, ⟨s0, s1, s2, s3, s4, s5, s6, s7⟩, -⟩ := HKA2.out wc f9
    have hzb9 := HR.out.zb.fr f9 (fun h => h)
    have hsb9 := HR.out.sb.fr f9 (fun h => h)
    have hcb9 := HR.out.cb.fr f9 (fun h => h)
    obtain ⟨y0, y1, y2, y3, y4, y5, y6, y7⟩ := st_cells hb9
    simp only at y0 y1 y2 y3 y4 y5 y6 y7
    by_cases hk0 : ak = 0
    · subst hk0
      have hput := HR.out.put f9 (hok9 rfl) hg3w hne
      have p0 := hsb9.frozen 0
      have p1 := hsb9.frozen 1
      have p2 := hsb9.frozen 2
      have p3 := hsb9.frozen 3
      have p4 := hsb9.frozen 4
      have p5 := hsb9.frozen 5
      have p6 := hsb9.frozen 6
      have p7 := hsb9.frozen 7
      clear hzb9 hsb9 hcb9 hok9 hb9
      have HPUT := Lib.hid hput
      clear hput
      go_wp2_with fail
      go_roundw
      case rel => exact ⟨k + 1, by omega, by go_num, _, HPUT.out⟩
      case measure => simp [intOf]; omega
    · have b8 : (ak != 0) = true := by simpa using hk0
      have hr9 : FoS w g1 g2 g3 ⟨rg, nz, nc, nt, nv, le, bk, bz, bc, bv, cz, cc, ct, cv, At, Ar, nr, cr, Ao, no_, co, bl⟩ wc ⟨tk, cn, Bt, mt, dt, Bs, ms, ds, pr, ev, lo, hi⟩ := ⟨hcb9, hzb9, hsb9, HR.out.ok.frNo f9, HR.out.fr.transNo f9⟩
      have hT := FoTo.fill hr9 hgz (k : Int) ak
      have hT8 := st_fill (q := g2) (z := stZero) ⟨tk, cn, Bt, mt, dt, Bs, ms, ds, pr, ev, lo, hi⟩ hzb9
      have p0 := hzb9.frozen 0
      have p1 := hzb9.frozen 1
      have p2 := hzb9.frozen 2
      have p3 := hzb9.frozen 3
      have p4 := hzb9.frozen 4
      have p5 := hzb9.frozen 5
      have p6 := hzb9.frozen 6
      have p7 := hzb9.frozen 7
      have hk9 := Lib.hid hk0
      obtain ⟨z0, z1, z2, z3, z4, z5, z6, z7⟩ := st_cells (s := stZero) hzb9
      simp only at z0 z1 z2 z3 z4 z5 z6 z7
      clear hzb9 hsb9 hcb9 hok9 hb9 hr9 hk0
      have HT := Lib.hid hT
      have HT8 := Lib.hid hT8
      clear hT hT8
      go_wp2_with fail
      exact bodyPost_ret (v := .tuple #[.agg (St.arr ⟨tk, cn, Bt, mt, dt, Bs, ms, ds, pr, ev, lo, hi⟩), .int .i64 (k : Int), .int .i64 ak]) (fold_results ⟨tk, cn, Bt, mt, dt, Bs, ms, ds, pr, ev, lo, hi⟩ (k : Int) ak g2 _ _ HT8.out rfl rfl rfl) rfl HT.out
  · obtain rfl : k = n := by omega
    have b1 : decide (k < k) = false := by simp
    have b2 : decide ((k : Int) < (k : Int)) = false := by simp
    have hT := FoTo.fill hr hgz (k : Int) 0
    have hT8 := st_fill (q := g2) (z := stZero) ⟨tk, cn, Bt, mt, dt, Bs, ms, ds, pr, ev, lo, hi⟩ hr.zb
    clear hr
    have HT := Lib.hid hT
    have HT8 := Lib.hid hT8
    clear hT hT8
    go_wp2_with fail
    exact bodyPost_ret (v := .tuple #[.agg (St.arr ⟨tk, cn, Bt, mt, dt, Bs, ms, ds, pr, ev, lo, hi⟩), .int .i64 (k : Int), .int .i64 0]) (fold_results ⟨tk, cn, Bt, mt, dt, Bs, ms, ds, pr, ev, lo, hi⟩ (k : Int) 0 g2 _ _ HT8.out rfl rfl rfl) rfl HT.out
end Go.Proofs.YtanhbebikcoliaaDoor
/- An entry under construction, beside a tape; none. -/
namespace Go.Proofs.YtanhbebikcoliaaDoor
open Go.ChangeShapes Go.WideShapes Go.ChangeAt Go.RowKit
set_option linter.unusedVariables false
/-- All fields are numbers of 64 bits. -/
structure EnOk (e : En) : Prop where
  f0 : okI e.kind
  f1 : okI e.tick
  f2 : okI e.tenant
  f3 : okI e.cell
  f4 : okI e.other
  f5 : okI e.epoch
  f6 : okI e.from_
  f7 : okI e.until_
  f8 : okI e.n
theorem EnOk.ok {e : En} (h : EnOk e) : e.ok := by
  obtain ⟨a0, a1, a2, a3, a4, a5, a6, a7, a8⟩ := h
  obtain ⟨kd, et, tn, cl, ot, ep, fm, un, n⟩ := e
  simp only [En.ok, En.l, List.mem_cons, List.not_mem_nil, or_false, forall_eq_or_imp, forall_eq]
  exact ⟨a0, a1, a2, a3, a4, a5, a6, a7, a8⟩
theorem okI_lit (x : Int) (h : -1000000000 ≤ x ∧ x ≤ 10000000000 := by (try dsimp only); omega) : okI x := by unfold okI; omega
theorem okI_of {x : Int} {m : Int} (h0 : -1000000000 ≤ x) (h1 : x < m) (h2 : m ≤ 10000000000) : okI x := by unfold okI; omega
theorem okI_max {a b : Int} (ha : okI a) (hb : okI b) : okI (max a b) := by unfold okI at *; omega
theorem okw (z : Int) : okI (IntKind.i64.wrap z) := by
  rw [IntKind.wrap_i64]
  unfold okI
  omega
/-- What a call leaves that reads the tape and answers an entry. -/
def EnTo (w : World) (t : Nat) (A : Option Addr) (n c k d : Nat) (e : Ending) (w' : World) : Prop :=
  ∃ en : En, e = .returned (.agg (EnArr en)) ∧ EnOk en ∧ ∃ k', k ≤ k' ∧ k' ≤ k + d ∧ (0 < n → k < k') ∧ Tp w' t A n c k' ∧ Fr (fun i => i = t) w w'
def EnLe (w : World) (t : Nat) (A : Option Addr) (n c k d : Nat) (e : Ending) (w' : World) : Prop :=
  ∃ en : En, e = .returned (.agg (EnArr en)) ∧ EnOk en ∧ ∃ k', k ≤ k' ∧ k' ≤ k + d ∧ Tp w' t A n c k' ∧ Fr (fun i => i = t) w w'
theorem EnTo.le {w w' : World} {t : Nat} {A : Option Addr} {n c k d : Nat} {e : Ending} (h : EnTo w t A n c k d e w') : EnLe w t A n c k d e w' := let ⟨en, h1, h2, k', h3, h4, _, h5, h6⟩ := h; ⟨en, h1, h2, k', h3, h4, h5, h6⟩
/-- The entry in its box g, the tape at t; base: the world w5. -/
structure GrS (w5 : World) (t g : Nat) (A : Option Addr) (n c : Nat) (Q : En → Prop) (wx : World) (k : Nat) (e : En) : Prop where
  eb : Blk wx g TEm (EnArr e)
  ok : EnOk e
  q : Q e
  tp : Tp wx t A n c k
  fr : Fr (fun i => i = t ∨ i = g) w5 wx
theorem Tp.ne {w : World} {t : Nat} {A : Option Addr} {n c k : Nat} (h : Tp w t A n c k) {g : Nat} {u : TypeId} {cs : Array Value} (hb : Blk w g u cs) (hne : u ≠ TTp) : g ≠ t := fun e => blk_type hb h.blk hne e
theorem RowI.set {w : World} {t g j : Nat} {A : Option Addr} {n : Nat} {u : Value} (h : RowI w t A n) (hj : ∀ b off i, A = some ⟨b, off, none⟩ → i < n → b ≠ g) : RowI (w.setCell ⟨g, j, none⟩ u) t A n := by
  rcases h with h | ⟨b, off, e1, e2, e3, e4⟩
  · exact .inl h
  · refine .inr ⟨b, off, e1, e2, Nat.lt_of_lt_of_le e3 (fr_set w ⟨g, j, none⟩ u).size, fun i hi => ?_⟩
    obtain ⟨x, hx⟩ := e4 i hi
    exact ⟨x, ((fr_set w ⟨g, j, none⟩ u).cell (p := ⟨b, off + i, none⟩) e3 (fun e => hj b off i e1 hi e)).trans hx⟩
/-- The tape's list does not lie in a block that is new. -/
def TpLow (A : Option Addr) (n B : Nat) : Prop := ∀ b off i, A = some ⟨b, off, none⟩ → i < n → b < B
theorem Tp.low {w : World} {t : Nat} {A : Option Addr} {n c k : Nat} (h : Tp w t A n c k) : TpLow A n w.heap.size := fun b off i hA hi => by
  rcases h.row with h | ⟨b', off', e1, e2, e3, e4⟩
  · omega
  · rw [hA] at e1
    injection e1 with e1
    injection e1 with e1
    omega
theorem Tp.set {w : World} {t g j B : Nat} {A : Option Addr} {n c k : Nat} {u : Value} (h : Tp w t A n c k) (hl : TpLow A n B) (hg : B ≤ g) (hne : g ≠ t) : Tp (w.setCell ⟨g, j, none⟩ u) t A n c k :=
  ⟨h.blk.fr (fr_set w ⟨g, j, none⟩ u) (fun e => hne e.symm), h.row.set (fun b off i hA hi e => by have := hl b off i hA hi; omega), h.len⟩
theorem GrS.put {w5 : World} {t g : Nat} {A : Option Addr} {n c : Nat} {Q : En → Prop} {wx : World} {k B : Nat} {e : En} (h : GrS w5 t g A n c Q wx k e) (hl : TpLow A n B) (hg : B ≤ g) (hne : g ≠ t) (j : Nat) (x : Int) (e' : En)
    (ha : (EnArr e).setIfInBounds j (.int .i64 x) = EnArr e') (hok : EnOk e') (hq : Q e') : GrS w5 t g A n c Q (wx.setCell ⟨g, j, none⟩ (.int .i64 x)) k e' :=
  ⟨Blk.cv (h.eb.set_ j _) ha, hok, hq, h.tp.set hl hg hne, h.fr.trans (fr_set wx ⟨g, j, none⟩ _) fun i hi => .inl (.inr hi)⟩
theorem GrS.put0 {w5 : World} {t g : Nat} {A : Option Addr} {n c : Nat} {Q : En → Prop} {wx : World} {k B : Nat} {e : En} (h : GrS w5 t g A n c Q wx k e) (hl : TpLow A n B) (hg : B ≤ g) (hne : g ≠ t) (x : Int) (hx : okI x) (hq : Q { e with kind := x }) : GrS w5 t g A n c Q (wx.setCell ⟨g, 0, none⟩ (.int .i64 x)) k { e with kind := x } :=
  h.put hl hg hne 0 x _ rfl ⟨hx, h.ok.f1, h.ok.f2, h.ok.f3, h.ok.f4, h.ok.f5, h.ok.f6, h.ok.f7, h.ok.f8⟩ hq
theorem GrS.put1 {w5 : World} {t g : Nat} {A : Option Addr} {n c : Nat} {Q : En → Prop} {wx : World} {k B : Nat} {e : En} (h : GrS w5 t g A n c Q wx k e) (hl : TpLow A n B) (hg : B ≤ g) (hne : g ≠ t) (x : Int) (hx : okI x) (hq : Q { e with tick := x }) : GrS w5 t g A n c Q (wx.setCell ⟨g, 1, none⟩ (.int .i64 x)) k { e with tick := x } :=
  h.put hl hg hne 1 x _ rfl ⟨h.ok.f0, hx, h.ok.f2, h.ok.f3, h.ok.f4, h.ok.f5, h.ok.f6, h.ok.f7, h.ok.f8⟩ hq
theorem GrS.put2 {w5 : World} {t g : Nat} {A : Option Addr} {n c : Nat} {Q : En → Prop} {wx : World} {k B : Nat} {e : En} (h : GrS w5 t g A n c Q wx k e) (hl : TpLow A n B) (hg : B ≤ g) (hne : g ≠ t) (x : Int) (hx : okI x) (hq : Q { e with tenant := x }) : GrS w5 t g A n c Q (wx.setCell ⟨g, 2, none⟩ (.int .i64 x)) k { e with tenant := x } :=
  h.put hl hg hne 2 x _ rfl ⟨h.ok.f0, h.ok.f1, hx, h.ok.f3, h.ok.f4, h.ok.f5, h.ok.f6, h.ok.f7, h.ok.f8⟩ hq
theorem GrS.put3 {w5 : World} {t g : Nat} {A : Option Addr} {n c : Nat} {Q : En → Prop} {wx : World} {k B : Nat} {e : En} (h : GrS w5 t g A n c Q wx k e) (hl : TpLow A n B) (hg : B ≤ g) (hne : g ≠ t) (x : Int) (hx : okI x) (hq : Q { e with cell := x }) : GrS w5 t g A n c Q (wx.setCell ⟨g, 3, none⟩ (.int .i64 x)) k { e with cell := x } :=
  h.put hl hg hne 3 x _ rfl ⟨h.ok.f0, h.ok.f1, h.ok.f2, hx, h.ok.f4, h.ok.f5, h.ok.f6, h.ok.f7, h.ok.f8⟩ hq
theorem GrS.put4 {w5 : World} {t g : Nat} {A : Option Addr} {n c : Nat} {Q : En → Prop} {wx : World} {k B : Nat} {e : En} (h : GrS w5 t g A n c Q wx k e) (hl : TpLow A n B) (hg : B ≤ g) (hne : g ≠ t) (x : Int) (hx : okI x) (hq : Q { e with other := x }) : GrS w5 t g A n c Q (wx.setCell ⟨g, 4, none⟩ (.int .i64 x)) k { e with other := x } :=
  h.put hl hg hne 4 x _ rfl ⟨h.ok.f0, h.ok.f1, h.ok.f2, h.ok.f3, hx, h.ok.f5, h.ok.f6, h.ok.f7, h.ok.f8⟩ hq
theorem GrS.put5 {w5 : World} {t g : Nat} {A : Option Addr} {n c : Nat} {Q : En → Prop} {wx : World} {k B : Nat} {e : En} (h : GrS w5 t g A n c Q wx k e) (hl : TpLow A n B) (hg : B ≤ g) (hne : g ≠ t) (x : Int) (hx : okI x) (hq : Q { e with epoch := x }) : GrS w5 t g A n c Q (wx.setCell ⟨g, 5, none⟩ (.int .i64 x)) k { e with epoch := x } :=
  h.put hl hg hne 5 x _ rfl ⟨h.ok.f0, h.ok.f1, h.ok.f2, h.ok.f3, h.ok.f4, hx, h.ok.f6, h.ok.f7, h.ok.f8⟩ hq
theorem GrS.put6 {w5 : World} {t g : Nat} {A : Option Addr} {n c : Nat} {Q : En → Prop} {wx : World} {k B : Nat} {e : En} (h : GrS w5 t g A n c Q wx k e) (hl : TpLow A n B) (hg : B ≤ g) (hne : g ≠ t) (x : Int) (hx : okI x) (hq : Q { e with from_ := x }) : GrS w5 t g A n c Q (wx.setCell ⟨g, 6, none⟩ (.int .i64 x)) k { e with from_ := x } :=
  h.put hl hg hne 6 x _ rfl ⟨h.ok.f0, h.ok.f1, h.ok.f2, h.ok.f3, h.ok.f4, h.ok.f5, hx, h.ok.f7, h.ok.f8⟩ hq
theorem GrS.put7 {w5 : World} {t g : Nat} {A : Option Addr} {n c : Nat} {Q : En → Prop} {wx : World} {k B : Nat} {e : En} (h : GrS w5 t g A n c Q wx k e) (hl : TpLow A n B) (hg : B ≤ g) (hne : g ≠ t) (x : Int) (hx : okI x) (hq : Q { e with until_ := x }) : GrS w5 t g A n c Q (wx.setCell ⟨g, 7, none⟩ (.int .i64 x)) k { e with until_ := x } :=
  h.put hl hg hne 7 x _ rfl ⟨h.ok.f0, h.ok.f1, h.ok.f2, h.ok.f3, h.ok.f4, h.ok.f5, h.ok.f6, hx, h.ok.f8⟩ hq
theorem GrS.put8 {w5 : World} {t g : Nat} {A : Option Addr} {n c : Nat} {Q : En → Prop} {wx : World} {k B : Nat} {e : En} (h : GrS w5 t g A n c Q wx k e) (hl : TpLow A n B) (hg : B ≤ g) (hne : g ≠ t) (x : Int) (hx : okI x) (hq : Q { e with n := x }) : GrS w5 t g A n c Q (wx.setCell ⟨g, 8, none⟩ (.int .i64 x)) k { e with n := x } :=
  h.put hl hg hne 8 x _ rfl ⟨h.ok.f0, h.ok.f1, h.ok.f2, h.ok.f3, h.ok.f4, h.ok.f5, h.ok.f6, h.ok.f7, hx⟩ hq
theorem GrS.tape {w5 : World} {t g : Nat} {A : Option Addr} {n c : Nat} {Q : En → Prop} {wx v : World} {k k' : Nat} {e : En} (h : GrS w5 t g A n c Q wx k e) (ht : Tp v t A n c k') (hf : Fr (fun i => i = t) wx v) (hne : g ≠ t) : GrS w5 t g A n c Q v k' e :=
  ⟨h.eb.fr hf hne, h.ok, h.q, ht, h.fr.trans hf fun i hi => .inl (.inl hi)⟩
theorem GrS.frNo {w5 : World} {t g : Nat} {A : Option Addr} {n c : Nat} {Q : En → Prop} {wx v : World} {k : Nat} {e : En} (h : GrS w5 t g A n c Q wx k e) (hf : Fr No wx v) : GrS w5 t g A n c Q v k e :=
  ⟨h.eb.fr hf (fun h => h), h.ok, h.q, h.tp.frNo hf, h.fr.afterNo hf⟩
/-- Another base. -/
theorem GrS.rebase {w5 : World} {t g : Nat} {A : Option Addr} {n c : Nat} {Q : En → Prop} {wx : World} {k : Nat} {e : En} (h : GrS w5 t g A n c Q wx k e) : GrS wx t g A n c Q wx k e := ⟨h.eb, h.ok, h.q, h.tp, Fr.refl _ _⟩
theorem en_fill {W : World} {q : Nat} (e : En) {cs : Array Value} (hs : cs.size = 9) (h : Blk W q TEm cs) : Blk (World.setCell (World.setCell (World.setCell (World.setCell (World.setCell (World.setCell (World.setCell (World.setCell (World.setCell W ⟨q, 0, none⟩ (.int .i64 e.kind)) ⟨q, 1, none⟩ (.int .i64 e.tick)) ⟨q, 2, none⟩ (.int .i64 e.tenant)) ⟨q, 3, none⟩ (.int .i64 e.cell)) ⟨q, 4, none⟩ (.int .i64 e.other)) ⟨q, 5, none⟩ (.int .i64 e.epoch)) ⟨q, 6, none⟩ (.int .i64 e.from_)) ⟨q, 7, none⟩ (.int .i64 e.until_)) ⟨q, 8, none⟩ (.int .i64 e.n)) q TEm (EnArr e) := by
  obtain ⟨l⟩ := cs
  match l, hs with
  | [a, b, c, d, e', f, g, i, j], _ => exact Blk.cv (Blk.set_ (Blk.set_ (Blk.set_ (Blk.set_ (Blk.set_ (Blk.set_ (Blk.set_ (Blk.set_ (Blk.set_ h 0 _) 1 _) 2 _) 3 _) 4 _) 5 _) 6 _) 7 _) 8 _) (by simp only [EnArr, List.setIfInBounds_toArray, List.set_cons_zero, List.set_cons_succ])
theorem en_fill_fr {W : World} {q : Nat} (e : En) : Fr (fun i => i = q) W (World.setCell (World.setCell (World.setCell (World.setCell (World.setCell (World.setCell (World.setCell (World.setCell (World.setCell W ⟨q, 0, none⟩ (.int .i64 e.kind)) ⟨q, 1, none⟩ (.int .i64 e.tick)) ⟨q, 2, none⟩ (.int .i64 e.tenant)) ⟨q, 3, none⟩ (.int .i64 e.cell)) ⟨q, 4, none⟩ (.int .i64 e.other)) ⟨q, 5, none⟩ (.int .i64 e.epoch)) ⟨q, 6, none⟩ (.int .i64 e.from_)) ⟨q, 7, none⟩ (.int .i64 e.until_)) ⟨q, 8, none⟩ (.int .i64 e.n)) := (Fr.setCell (Fr.setCell (Fr.setCell (Fr.setCell (Fr.setCell (Fr.setCell (Fr.setCell (Fr.setCell (Fr.setCell (Fr.refl (fun i => i = q) W) (p := ⟨q, 0, none⟩) (.inl rfl) _) (p := ⟨q, 1, none⟩) (.inl rfl) _) (p := ⟨q, 2, none⟩) (.inl rfl) _) (p := ⟨q, 3, none⟩) (.inl rfl) _) (p := ⟨q, 4, none⟩) (.inl rfl) _) (p := ⟨q, 5, none⟩) (.inl rfl) _) (p := ⟨q, 6, none⟩) (.inl rfl) _) (p := ⟨q, 7, none⟩) (.inl rfl) _) (p := ⟨q, 8, none⟩) (.inl rfl) _)
theorem Tp.fill {W : World} {t q B : Nat} {A : Option Addr} {n c k : Nat} (e : En) (h : Tp W t A n c k) (hl : TpLow A n B) (hg : B ≤ q) (hne : q ≠ t) : Tp (World.setCell (World.setCell (World.setCell (World.setCell (World.setCell (World.setCell (World.setCell (World.setCell (World.setCell W ⟨q, 0, none⟩ (.int .i64 e.kind)) ⟨q, 1, none⟩ (.int .i64 e.tick)) ⟨q, 2, none⟩ (.int .i64 e.tenant)) ⟨q, 3, none⟩ (.int .i64 e.cell)) ⟨q, 4, none⟩ (.int .i64 e.other)) ⟨q, 5, none⟩ (.int .i64 e.epoch)) ⟨q, 6, none⟩ (.int .i64 e.from_)) ⟨q, 7, none⟩ (.int .i64 e.until_)) ⟨q, 8, none⟩ (.int .i64 e.n)) t A n c k := (Tp.set (Tp.set (Tp.set (Tp.set (Tp.set (Tp.set (Tp.set (Tp.set (Tp.set h hl hg hne) hl hg hne) hl hg hne) hl hg hne) hl hg hne) hl hg hne) hl hg hne) hl hg hne) hl hg hne)
/-- The answer is given. -/
theorem EnTo.fill {w w5 W : World} {t g q : Nat} {A : Option Addr} {n c k0 k d : Nat} {Q : En → Prop} {e : En} (h : GrS w5 t g A n c Q W k e) (hw : Fr (fun i => i = t) w w5) (hl : TpLow A n w.heap.size) (hg : w.heap.size ≤ g) (hq : w.heap.size ≤ q) (hqt : q ≠ t) (hk : k0 ≤ k ∧ k ≤ k0 + d ∧ (0 < n → k0 < k)) :
    EnTo w t A n c k0 d (.returned (.agg (EnArr e))) (World.setCell (World.setCell (World.setCell (World.setCell (World.setCell (World.setCell (World.setCell (World.setCell (World.setCell W ⟨q, 0, none⟩ (.int .i64 e.kind)) ⟨q, 1, none⟩ (.int .i64 e.tick)) ⟨q, 2, none⟩ (.int .i64 e.tenant)) ⟨q, 3, none⟩ (.int .i64 e.cell)) ⟨q, 4, none⟩ (.int .i64 e.other)) ⟨q, 5, none⟩ (.int .i64 e.epoch)) ⟨q, 6, none⟩ (.int .i64 e.from_)) ⟨q, 7, none⟩ (.int .i64 e.until_)) ⟨q, 8, none⟩ (.int .i64 e.n)) :=
  ⟨e, rfl, h.ok, k, hk.1, hk.2.1, hk.2.2, h.tp.fill e hl hq hqt, (hw.trans h.fr fun i hi => by rcases hi with hi | hi; exact .inl hi; exact .inr (by omega)).trans (en_fill_fr e) fun i hi => by have hi : i = q := hi; exact .inr (by omega)⟩
theorem EnLe.fill {w w5 W : World} {t g q : Nat} {A : Option Addr} {n c k0 k d : Nat} {Q : En → Prop} {e : En} (h : GrS w5 t g A n c Q W k e) (hw : Fr (fun i => i = t) w w5) (hl : TpLow A n w.heap.size) (hg : w.heap.size ≤ g) (hq : w.heap.size ≤ q) (hqt : q ≠ t) (hk : k0 ≤ k ∧ k ≤ k0 + d) :
    EnLe w t A n c k0 d (.returned (.agg (EnArr e))) (World.setCell (World.setCell (World.setCell (World.setCell (World.setCell (World.setCell (World.setCell (World.setCell (World.setCell W ⟨q, 0, none⟩ (.int .i64 e.kind)) ⟨q, 1, none⟩ (.int .i64 e.tick)) ⟨q, 2, none⟩ (.int .i64 e.tenant)) ⟨q, 3, none⟩ (.int .i64 e.cell)) ⟨q, 4, none⟩ (.int .i64 e.other)) ⟨q, 5, none⟩ (.int .i64 e.epoch)) ⟨q, 6, none⟩ (.int .i64 e.from_)) ⟨q, 7, none⟩ (.int .i64 e.until_)) ⟨q, 8, none⟩ (.int .i64 e.n)) :=
  ⟨e, rfl, h.ok, k, hk.1, hk.2, h.tp.fill e hl hq hqt, (hw.trans h.fr fun i hi => by rcases hi with hi | hi; exact .inl hi; exact .inr (by omega)).trans (en_fill_fr e) fun i hi => by have hi : i = q := hi; exact .inr (by omega)⟩
theorem en_cells {w : World} {g : Nat} {e : En} (h : Blk w g TEm (EnArr e)) : w.cell? ⟨g, 0, none⟩ = some (.int .i64 e.kind) ∧ w.cell? ⟨g, 1, none⟩ = some (.int .i64 e.tick) ∧ w.cell? ⟨g, 2, none⟩ = some (.int .i64 e.tenant) ∧ w.cell? ⟨g, 3, none⟩ = some (.int .i64 e.cell) ∧ w.cell? ⟨g, 4, none⟩ = some (.int .i64 e.other) ∧ w.cell? ⟨g, 5, none⟩ = some (.int .i64 e.epoch) ∧ w.cell? ⟨g, 6, none⟩ = some (.int .i64 e.from_) ∧ w.cell? ⟨g, 7, none⟩ = some (.int .i64 e.until_) ∧ w.cell? ⟨g, 8, none⟩ = some (.int .i64 e.n) := ⟨h.cell 0, h.cell 1, h.cell 2, h.cell 3, h.cell 4, h.cell 5, h.cell 6, h.cell 7, h.cell 8⟩
theorem nonem_results (e : En) (g : Nat) (ts : Array Value) (W : World) (hb : Blk W g TEm (EnArr e)) (h2 : ts[4]?.getD undef = .pointer (some ⟨g, 0, none⟩)) :
    (results Tryd.f38 ts).run Tryd.prog W = .ok (.agg (EnArr e)) W := by
  obtain ⟨c0, c1, c2, c3, c4, c5, c6, c7, c8⟩ := en_cells hb
  clear hb
  simp [results, Tryd.results38, go_sem, h2, c0, c1, c2, c3, c4, c5, c6, c7, c8]
theorem platformm_results (e : En) (g : Nat) (ts : Array Value) (W : World) (hb : Blk W g TEm (EnArr e)) (h2 : ts[8]?.getD undef = .pointer (some ⟨g, 0, none⟩)) :
    (results Tryd.f37 ts).run Tryd.prog W = .ok (.agg (EnArr e)) W := by
  obtain ⟨c0, c1, c2, c3, c4, c5, c6, c7, c8⟩ := en_cells hb
  clear hb
  simp [results, Tryd.results37, go_sem, h2, c0, c1, c2, c3, c4, c5, c6, c7, c8]
theorem grantm_results (e : En) (g : Nat) (ts : Array Value) (W : World) (hb : Blk W g TEm (EnArr e)) (h2 : ts[8]?.getD undef = .pointer (some ⟨g, 0, none⟩)) :
    (results Tryd.f42 ts).run Tryd.prog W = .ok (.agg (EnArr e)) W := by
  obtain ⟨c0, c1, c2, c3, c4, c5, c6, c7, c8⟩ := en_cells hb
  clear hb
  simp [results, Tryd.results42, go_sem, h2, c0, c1, c2, c3, c4, c5, c6, c7, c8]
theorem entrym_results (e : En) (g : Nat) (ts : Array Value) (W : World) (hb : Blk W g TEm (EnArr e)) (h2 : ts[6]?.getD undef = .pointer (some ⟨g, 0, none⟩)) :
    (results Tryd.f24 ts).run Tryd.prog W = .ok (.agg (EnArr e)) W := by
  obtain ⟨c0, c1, c2, c3, c4, c5, c6, c7, c8⟩ := en_cells hb
  clear hb
  simp [results, Tryd.results24, go_sem, h2, c0, c1, c2, c3, c4, c5, c6, c7, c8]
set_option maxHeartbeats 2000000 in
theorem nonem_any (kd tk : Int) (w : World) : Calls Tryd.prog 38 #[.int .i64 kd, .int .i64 tk] w (fun e w' => e = .returned (.agg (EnArr ⟨kd, tk, -1, -1, -1, 0, 0, 0, 0⟩)) ∧ Fr No w w') := by
  go_enter Tryd.func38, Tryd.ntmps38
  go_wp2_with fail
  exact bodyPost_ret (v := .agg (EnArr ⟨kd, tk, -1, -1, -1, 0, 0, 0, 0⟩)) (nonem_results ⟨kd, tk, -1, -1, -1, 0, 0, 0, 0⟩ w.heap.size _ _ (Blk.new w TEm _) rfl) rfl ⟨rfl, fr_alloc _ _⟩
theorem CfOk.tape {w w' : World} {c : Cf} {t : Nat} {A : Option Addr} {n cp k : Nat} (h : CfOk w c) (ht : Tp w t A n cp k) (hf : Fr (fun i => i = t) w w') : CfOk w' c := by
  have t0 : w.cell? ⟨t, 0, none⟩ = some (.slice A n cp) := ht.blk.cell 0
  obtain ⟨h1, h2, h3, h4, h5, h6, h7, h8, h9, h10, h11, h12, z1, z2, z3, k1, k2, k3, k4⟩ := h
  have hs := hf.size
  have q : ∀ {b i : Nat} {v : Value}, b ≠ t → b < w.heap.size → w.cell? ⟨b, i, none⟩ = some v → w'.cell? ⟨b, i, none⟩ = some v := fun {b i v} hn hb hv => (hf.cell (p := ⟨b, i, none⟩) hb hn).trans hv
  have nz : c.bz ≠ t := by
    intro e
    obtain ⟨r, -, a2⟩ := k1 0 (by omega)
    rw [e, t0] at a2
    cases a2
  have nc : c.bc ≠ t := by
    intro e
    obtain ⟨r, a, -, a2, -⟩ := k2 0 (by omega)
    rw [e] at a2
    rw [Nat.zero_mul, t0] at a2
    cases a2
  have nv : c.bv ≠ t := by
    intro e
    obtain ⟨r, a, a2, -⟩ := k4 0 (by omega)
    rw [e] at a2
    rw [Nat.zero_mul, t0] at a2
    cases a2
  refine ⟨h1, h2, h3, h4, h5, h6, h7, h8, h9, h10, h11, h12, by omega, by omega, by omega, ?_, ?_, ?_, ?_⟩
  · intro i hi
    obtain ⟨r, a1, a2⟩ := k1 i hi
    exact ⟨r, a1, q nz z1 a2⟩
  · intro i hi
    obtain ⟨r, a, a1, a2, a3⟩ := k2 i hi
    exact ⟨r, a, a1, q nc z2 a2, q nc z2 a3⟩
  · intro i hi
    obtain ⟨bt, a, b, p, l, d, g, n, e1, e2, c0, c1, c2, c3, c4, c5, c6⟩ := k3 i hi
    have nt : bt ≠ t := by
      intro e
      obtain ⟨bt', a', b', p', l', d', g', n', e1', -, c0', -⟩ := k3 0 (by omega)
      rw [e1] at e1'
      injection e1' with e1'
      injection e1' with e1'
      rw [← e1', e, Nat.zero_mul, t0] at c0'
      cases c0'
    exact ⟨bt, a, b, p, l, d, g, n, e1, by omega, q nt e2 c0, q nt e2 c1, q nt e2 c2, q nt e2 c3, q nt e2 c4, q nt e2 c5, q nt e2 c6⟩
  · intro i hi
    obtain ⟨a, b, a1, a2⟩ := k4 i hi
    exact ⟨a, b, q nv z3 a1, q nv z3 a2⟩
theorem StOk.tape {w w' : World} {G : Nat → Prop} {c : Cf} {s : St} {t : Nat} {A : Option Addr} {n cp k : Nat} (h : StOk w G c s) (ht : Tp w t A n cp k) (hf : Fr (fun i => i = t) w w') : StOk w' G c s := by
  obtain ⟨h1, h2, h3, h4, ⟨b, cur, h5, h6, h7, h8⟩, h9, h10⟩ := h
  refine ⟨h1, h2, h3, h4, ⟨b, cur, h5, h6, h7.fr hf (ht.ne h7 (by decide)), h8⟩, h9.imp id ?_, h10⟩
  rintro ⟨b, cur, h5, h6, h7, h8⟩
  exact ⟨b, cur, h5, h6, h7.fr hf (ht.ne h7 (by decide)), h8⟩
end Go.Proofs.YtanhbebikcoliaaDoor
