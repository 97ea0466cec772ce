/-
  Several texts in one: Cfg, CfgB, CfgC, St, StB.
-/
import Derived.Test.YtanhbebikcoliaaDoorG1
import Derived.Test.YtanhbebikcoliaaDoorG2
import Derived.Deep.RegionHeld3
import Derived.Deep.CutBlock
import Derived.Deep.CutRange
import Derived.Deep.RegionLaw
import Derived.Deep.DrawnRows
import Derived.IntWalk
/- Configurations: what the references of layers 4 and 5 read of them. -/
namespace Go.Proofs.YtanhbebikcoliaaDoor
open Go.ChangeShapes Go.WideShapes Go.ChangeAt Go.RowKit
set_option linter.unusedVariables false
abbrev TCf : TypeId := 32
/-- A configuration as a value: the numbers of things, and where they lie. -/
structure Cf where
  rg : Nat
  nz : Nat
  nc : Nat
  nt : Nat
  nv : Nat
  le : Nat
  bk : Nat
  bz : Nat
  bc : Nat
  bv : Nat
  cz : Nat
  cc : Nat
  ct : Nat
  cv : Nat
  At : Option Addr
  Ar : Option Addr
  nr : Nat
  cr : Nat
  Ao : Option Addr
  no_ : Nat
  co : Nat
  bl : Int
abbrev Cf.arr (c : Cf) : Array Value := #[.int .i64 (c.rg : Int), .slice (some ⟨c.bz, 0, none⟩) c.nz c.cz, .slice (some ⟨c.bc, 0, none⟩) c.nc c.cc, .slice c.At c.nt c.ct, .slice (some ⟨c.bv, 0, none⟩) c.nv c.cv, .slice c.Ar c.nr c.cr, .slice c.Ao c.no_ c.co, .int .i64 c.bl, .int .i64 (c.le : Int), .int .i64 (c.bk : Int)]
/-- It lies in memory as it should. -/
structure CfOk (w : World) (c : Cf) : Prop where
  rg1 : 1 ≤ c.rg
  rg2 : c.rg ≤ 3
  nz1 : 1 ≤ c.nz
  nz2 : c.nz ≤ 16
  nc1 : 1 ≤ c.nc
  nc2 : c.nc ≤ 16
  nt2 : c.nt ≤ 16
  nv1 : 1 ≤ c.nv
  nv2 : c.nv ≤ 16
  le1 : 2 ≤ c.le
  le2 : c.le ≤ 12
  bk2 : c.bk ≤ 8
  bzl : c.bz < w.heap.size
  bcl : c.bc < w.heap.size
  bvl : c.bv < w.heap.size
  zone : ∀ i, i < c.nz → ∃ r : Nat, r < c.rg ∧ w.cell? ⟨c.bz, i, none⟩ = some (.int .i64 (r : Int))
  cell : ∀ i, i < c.nc → ∃ (z : Nat) (a : Int), z < c.nz ∧ w.cell? ⟨c.bc, i * 2, none⟩ = some (.int .i64 (z : Int)) ∧ w.cell? ⟨c.bc, i * 2 + 1, none⟩ = some (.int .i64 a)
  ten : ∀ i, i < c.nt → ∃ (bt : Nat) (a b p l d g : Int) (n : Bool), c.At = some ⟨bt, 0, none⟩ ∧ bt < w.heap.size ∧ w.cell? ⟨bt, i * 7, none⟩ = some (.int .i64 a) ∧ w.cell? ⟨bt, i * 7 + 1, none⟩ = some (.int .i64 b) ∧ w.cell? ⟨bt, i * 7 + 2, none⟩ = some (.int .i64 p) ∧ w.cell? ⟨bt, i * 7 + 3, none⟩ = some (.int .i64 l) ∧ w.cell? ⟨bt, i * 7 + 4, none⟩ = some (.int .i64 d) ∧ w.cell? ⟨bt, i * 7 + 5, none⟩ = some (.int .i64 g) ∧ w.cell? ⟨bt, i * 7 + 6, none⟩ = some (.bool n)
  ver : ∀ i, i < c.nv → ∃ (a b : Int), w.cell? ⟨c.bv, i * 2, none⟩ = some (.int .i64 a) ∧ w.cell? ⟨c.bv, i * 2 + 1, none⟩ = some (.int .i64 b)
theorem CfOk.fr {w w' : World} {F : Nat → Prop} {c : Cf} (h : CfOk w c) (hf : Fr F w w') (hF : ∀ i, i < w.heap.size → ¬ F i) : CfOk w' c := by
  obtain ⟨h1, h2, h3, h4, h5, h6, h7, h8, h9, h10, h11, h12, z1, z2, z3, k1, k2, k3, k4⟩ := h
  have hs := hf.size
  have q : ∀ {b i : Nat} {v : Value}, b < w.heap.size → w.cell? ⟨b, i, none⟩ = some v → w'.cell? ⟨b, i, none⟩ = some v := fun {b i v} hb hv => (hf.cell (p := ⟨b, i, none⟩) hb (hF b hb)).trans hv
  refine ⟨h1, h2, h3, h4, h5, h6, h7, h8, h9, h10, h11, h12, by omega, by omega, by omega, ?_, ?_, ?_, ?_⟩
  · intro i hi
    obtain ⟨r, a1, a2⟩ := k1 i hi
    exact ⟨r, a1, q z1 a2⟩
  · intro i hi
    obtain ⟨r, a, a1, a2, a3⟩ := k2 i hi
    exact ⟨r, a, a1, q z2 a2, q z2 a3⟩
  · intro i hi
    obtain ⟨bt, a, b, p, l, d, g, n, e1, e2, c0, c1, c2, c3, c4, c5, c6⟩ := k3 i hi
    exact ⟨bt, a, b, p, l, d, g, n, e1, by omega, q e2 c0, q e2 c1, q e2 c2, q e2 c3, q e2 c4, q e2 c5, q e2 c6⟩
  · intro i hi
    obtain ⟨a, b, a1, a2⟩ := k4 i hi
    exact ⟨a, b, q z3 a1, q z3 a2⟩
theorem CfOk.frNo {w w' : World} {c : Cf} (h : CfOk w c) (hf : Fr No w w') : CfOk w' c := h.fr hf fun _ _ h => h
def AnyB (w : World) (e : Ending) (w' : World) : Prop := ∃ b : Bool, e = .returned (.bool b) ∧ Fr No w w'
def AnyI (w : World) (lo hi : Int) (e : Ending) (w' : World) : Prop := ∃ x : Int, e = .returned (.int .i64 x) ∧ lo ≤ x ∧ x ≤ hi ∧ Fr No w w'
theorem nat_of {i : Int} {n : Nat} (h1 : 0 ≤ i) (h2 : i < n) : ∃ k : Nat, i = (k : Int) ∧ k < n := ⟨i.toNat, by omega, by omega⟩
set_option maxHeartbeats 1000000 in
theorem has_any (s i : Int) (w : World) : Calls Tryd.prog 54 #[.int .i64 s, .int .i64 i] w (AnyB w) := by
  by_cases h1 : 0 ≤ i
  · by_cases h2 : i < 62
    · have b1 : decide (0 ≤ i) = true := decide_eq_true h1
      have b2 : decide (i < 62) = true := decide_eq_true h2
      obtain ⟨k, rfl⟩ : ∃ k : Nat, i = (k : Int) := ⟨i.toNat, by omega⟩
      go_enter Tryd.func54, Tryd.ntmps54
      go_wp2_with fail
      go_ret
      exact ⟨_, rfl, Fr.refl _ _⟩
    · have b1 : decide (0 ≤ i) = true := decide_eq_true h1
      have b2 : decide (i < 62) = false := decide_eq_false h2
      go_enter Tryd.func54, Tryd.ntmps54
      go_wp2_with fail
      go_ret
      exact ⟨_, rfl, Fr.refl _ _⟩
  · have b1 : decide (0 ≤ i) = false := decide_eq_false h1
    go_enter Tryd.func54, Tryd.ntmps54
    go_wp2_with fail
    go_ret
    exact ⟨_, rfl, Fr.refl _ _⟩
set_option maxHeartbeats 1000000 in
theorem zoneOf_any {w : World} {c : Cf} (h : CfOk w c) (i : Int) : Calls Tryd.prog 79 #[.agg c.arr, .int .i64 i] w (AnyI w (-1) ((c.nz : Int) - 1)) := by
  have hnc := h.nc1
  have hb := h.bcl
  have hcell := h.cell
  have hnz := h.nz1
  obtain ⟨rg, nz, nc, nt, nv, le, bk, bz, bc, bv, cz, cc, ct, cv, At, Ar, nr, cr, Ao, no_, co, bl⟩ := c
  simp only at *
  clear h
  by_cases h1 : i < 0
  · have b1 : decide (i < 0) = true := decide_eq_true h1
    clear hcell
    go_enter Tryd.func79, Tryd.ntmps79
    go_wp2_with fail
    go_ret
    exact ⟨_, rfl, by omega, by omega, fr_alloc _ _⟩
  · have b1 : decide (i < 0) = false := decide_eq_false h1
    by_cases h2 : (nc : Int) ≤ i
    · have b2 : decide ((nc : Int) ≤ i) = true := decide_eq_true h2
      clear hcell
      go_enter Tryd.func79, Tryd.ntmps79
      go_wp2_with fail
      go_ret
      exact ⟨_, rfl, by omega, by omega, fr_alloc _ _⟩
    · have b2 : decide ((nc : Int) ≤ i) = false := decide_eq_false h2
      obtain ⟨k, rfl, hk⟩ := nat_of (i := i) (n := nc) (by omega) (by omega)
      obtain ⟨z, a, hz, c0, c1⟩ := hcell k hk
      have hix : (0 : Int) ≤ (k : Int) ∧ (k : Int) < (nc : Int) := by omega
      clear hcell h1 h2
      go_enter Tryd.func79, Tryd.ntmps79
      go_wp2_with fail
      go_ret
      exact ⟨_, rfl, by omega, by omega, fr_alloc _ _⟩
set_option maxHeartbeats 1000000 in
theorem regionOf_any {w : World} {c : Cf} (h : CfOk w c) (i : Int) : Calls Tryd.prog 63 #[.agg c.arr, .int .i64 i] w (AnyI w (-1) ((c.rg : Int) - 1)) := by
  have hb := h.bzl
  have hz_ := h.zone
  have hnz := h.nz1
  have hrg := h.rg1
  have hZ := fun W (hf : Fr No w W) => zoneOf_any (h.frNo hf) i
  obtain ⟨rg, nz, nc, nt, nv, le, bk, bz, bc, bv, cz, cc, ct, cv, At, Ar, nr, cr, Ao, no_, co, bl⟩ := c
  simp only at *
  clear h
  obtain ⟨w1, hw1⟩ : ∃ w1, w1 = w.alloc (.cells (Cf.arr ⟨rg, nz, nc, nt, nv, le, bk, bz, bc, bv, cz, cc, ct, cv, At, Ar, nr, cr, Ao, no_, co, bl⟩) TCf) := ⟨_, rfl⟩
  obtain ⟨g, hg⟩ : ∃ g, g = w.heap.size := ⟨_, rfl⟩
  have hb1 : Blk w1 g TCf (Cf.arr ⟨rg, nz, nc, nt, nv, le, bk, bz, bc, bv, cz, cc, ct, cv, At, Ar, nr, cr, Ao, no_, co, bl⟩) := by rw [hw1, hg]; exact Blk.new _ _ _
  have f1 : Fr No w w1 := by rw [hw1]; exact fr_alloc _ _
  have hka : ∀ V, Fr No w1 V → V.cell? ⟨g, 0, none⟩ = some (.int .i64 (rg : Int)) ∧ V.cell? ⟨g, 1, none⟩ = some (.slice (some ⟨bz, 0, none⟩) nz cz) ∧ V.cell? ⟨g, 2, none⟩ = some (.slice (some ⟨bc, 0, none⟩) nc cc) ∧ V.cell? ⟨g, 3, none⟩ = some (.slice At nt ct) ∧ V.cell? ⟨g, 4, none⟩ = some (.slice (some ⟨bv, 0, none⟩) nv cv) ∧ V.cell? ⟨g, 5, none⟩ = some (.slice Ar nr cr) ∧ V.cell? ⟨g, 6, none⟩ = some (.slice Ao no_ co) ∧ V.cell? ⟨g, 7, none⟩ = some (.int .i64 bl) ∧ V.cell? ⟨g, 8, none⟩ = some (.int .i64 (le : Int)) ∧ V.cell? ⟨g, 9, none⟩ = some (.int .i64 (bk : Int)) := fun V hf => let k := hb1.fr hf (fun h => h); ⟨k.cell 0, k.cell 1, k.cell 2, k.cell 3, k.cell 4, k.cell 5, k.cell 6, k.cell 7, k.cell 8, k.cell 9⟩
  simp only [Cf.arr] at hw1
  have HZ := Lib.hid hZ
  have HZ_ := Lib.hid hz_
  have HKA := Lib.hid hka
  have HW1 := Lib.hid hw1
  have HG := Lib.hid hg
  have HB1 := Lib.hid hb1
  clear hZ hz_ hka hw1 hg hb1
  go_enter Tryd.func63, Tryd.ntmps63
  go_upto_region 1 with fail
  rw [← HW1.out, ← HG.out]
  obtain ⟨c0, c1, c2, c3, c4, c5, c6, c7, c8, c9⟩ := HKA.out w1 (Fr.refl _ _)
  go_wp2_with fail
  refine (HZ.out w1 f1).mono ?_
  rintro e w' ⟨z, rfl, z1, z2, f2⟩
  obtain ⟨d0, d1, d2, d3, d4, d5, d6, d7, d8, d9⟩ := HKA.out w' f2
  clear c0 c1 c2 c3 c4 c5 c6 c7 c8 c9
  have f3 := f1.transNo f2
  by_cases h1 : z < 0
  · have b1 : decide (z < 0) = true := decide_eq_true h1
    go_wp2_with fail
    go_ret
    exact ⟨_, rfl, by omega, by omega, f3⟩
  · have b1 : decide (z < 0) = false := decide_eq_false h1
    obtain ⟨k, rfl, hk⟩ := nat_of (i := z) (n := nz) (by omega) (by omega)
    obtain ⟨r, hr, e0⟩ := HZ_.out k hk
    have e1 : w'.cell? ⟨bz, k, none⟩ = some (.int .i64 (r : Int)) := (f3.cell (p := ⟨bz, k, none⟩) hb (fun h => h)).trans e0
    have hix : (0 : Int) ≤ (k : Int) ∧ (k : Int) < (nz : Int) := by omega
    go_wp2_with fail
    go_ret
    exact ⟨_, rfl, by omega, by omega, f3⟩
end Go.Proofs.YtanhbebikcoliaaDoor
/- Configurations: May, Apart. -/
namespace Go.Proofs.YtanhbebikcoliaaDoor
open Go.ChangeShapes Go.WideShapes Go.ChangeAt Go.RowKit
set_option linter.unusedVariables false
theorem AnyB.of {w W : World} {b : Bool} (h : Fr No w W) : AnyB w (.returned (.bool b)) W := ⟨b, rfl, h⟩
set_option maxRecDepth 100000 in
set_option maxHeartbeats 4000000 in
theorem may_any {w : World} {c : Cf} (h : CfOk w c) (t i : Int) : Calls Tryd.prog 55 #[.agg c.arr, .int .i64 t, .int .i64 i] w (AnyB w) := by
  have hten := h.ten
  have hR := fun W (hf : Fr No w W) => regionOf_any (h.frNo hf) i
  have hH := has_any
  obtain ⟨rg, nz, nc, nt, nv, le, bk, bz, bc, bv, cz, cc, ct, cv, At, Ar, nr, cr, Ao, no_, co, bl⟩ := c
  simp only at *
  clear h
  obtain ⟨w1, hw1⟩ : ∃ w1, w1 = w.alloc (.cells (Cf.arr ⟨rg, nz, nc, nt, nv, le, bk, bz, bc, bv, cz, cc, ct, cv, At, Ar, nr, cr, Ao, no_, co, bl⟩) TCf) := ⟨_, rfl⟩
  obtain ⟨g, hg⟩ : ∃ g, g = w.heap.size := ⟨_, rfl⟩
  have hb1 : Blk w1 g TCf (Cf.arr ⟨rg, nz, nc, nt, nv, le, bk, bz, bc, bv, cz, cc, ct, cv, At, Ar, nr, cr, Ao, no_, co, bl⟩) := by rw [hw1, hg]; exact Blk.new _ _ _
  have f1 : Fr No w w1 := by rw [hw1]; exact fr_alloc _ _
  have hka : ∀ V, Fr No w1 V → V.cell? ⟨g, 0, none⟩ = some (.int .i64 (rg : Int)) ∧ V.cell? ⟨g, 1, none⟩ = some (.slice (some ⟨bz, 0, none⟩) nz cz) ∧ V.cell? ⟨g, 2, none⟩ = some (.slice (some ⟨bc, 0, none⟩) nc cc) ∧ V.cell? ⟨g, 3, none⟩ = some (.slice At nt ct) ∧ V.cell? ⟨g, 4, none⟩ = some (.slice (some ⟨bv, 0, none⟩) nv cv) ∧ V.cell? ⟨g, 5, none⟩ = some (.slice Ar nr cr) ∧ V.cell? ⟨g, 6, none⟩ = some (.slice Ao no_ co) ∧ V.cell? ⟨g, 7, none⟩ = some (.int .i64 bl) ∧ V.cell? ⟨g, 8, none⟩ = some (.int .i64 (le : Int)) ∧ V.cell? ⟨g, 9, none⟩ = some (.int .i64 (bk : Int)) := fun V hf => let k := hb1.fr hf (fun h => h); ⟨k.cell 0, k.cell 1, k.cell 2, k.cell 3, k.cell 4, k.cell 5, k.cell 6, k.cell 7, k.cell 8, k.cell 9⟩
  simp only [Cf.arr] at hw1
  by_cases h1 : 0 ≤ t
  · have b1 : decide (0 ≤ t) = true := decide_eq_true h1
    by_cases h2 : t < (nt : Int)
    · have b2 : decide (t < (nt : Int)) = true := decide_eq_true h2
      obtain ⟨k, rfl, hk⟩ := nat_of (i := t) (n := nt) (by omega) (by omega)
      obtain ⟨bt, a, b, p, l, d, g0, n, rfl, hbt, c0, c1, c2, c3, c4, c5, c6⟩ := hten k hk
      have hix : (0 : Int) ≤ (k : Int) ∧ (k : Int) < (nt : Int) := by omega
      have hk4 : ∀ V, Fr No w V → V.cell? ⟨bt, k * 7 + 4, none⟩ = some (.int .i64 d) := fun V hf => (hf.cell (p := ⟨bt, k * 7 + 4, none⟩) hbt (fun h => h)).trans c4
      clear hten h1 h2 c0 c1 c2 c3 c4 c5 c6
      have HR := Lib.hid hR
      have HH := Lib.hid hH
      have HKA := Lib.hid hka
      have HW1 := Lib.hid hw1
      have HG := Lib.hid hg
      have HB1 := Lib.hid hb1
      have HK4 := Lib.hid hk4
      clear hR hH hka hw1 hg hb1 hk4
      go_enter Tryd.func55, Tryd.ntmps55
      go_upto_region 1 with fail
      rw [← HW1.out, ← HG.out]
      obtain ⟨e0, e1, e2, e3, e4, e5, e6, e7, e8, e9⟩ := HKA.out w1 (Fr.refl _ _)
      have e10 := HK4.out w1 f1
      go_region_held3 (fun V => Fr No w1 V ∧ V.cell? ⟨bt, k * 7 + 4, none⟩ = some (.int .i64 d) ∧ V.cell? ⟨g, 0, none⟩ = some (.int .i64 (rg : Int)) ∧ V.cell? ⟨g, 1, none⟩ = some (.slice (some ⟨bz, 0, none⟩) nz cz) ∧ V.cell? ⟨g, 2, none⟩ = some (.slice (some ⟨bc, 0, none⟩) nc cc) ∧ V.cell? ⟨g, 3, none⟩ = some (.slice (some ⟨bt, 0, none⟩) nt ct) ∧ V.cell? ⟨g, 4, none⟩ = some (.slice (some ⟨bv, 0, none⟩) nv cv) ∧ V.cell? ⟨g, 5, none⟩ = some (.slice Ar nr cr) ∧ V.cell? ⟨g, 6, none⟩ = some (.slice Ao no_ co) ∧ V.cell? ⟨g, 7, none⟩ = some (.int .i64 bl) ∧ V.cell? ⟨g, 8, none⟩ = some (.int .i64 (le : Int)) ∧ V.cell? ⟨g, 9, none⟩ = some (.int .i64 (bk : Int))) (exact ⟨(by repeat (first | assumption | exact Fr.refl _ _ | refine Fr.alloc ?_ _ | refine Fr.drew ?_ | refine Fr.drewN ?_ _)), HK4.out _ (f1.transNo (by repeat (first | assumption | exact Fr.refl _ _ | refine Fr.alloc ?_ _ | refine Fr.drew ?_ | refine Fr.drewN ?_ _))), HKA.out _ (by repeat (first | assumption | exact Fr.refl _ _ | refine Fr.alloc ?_ _ | refine Fr.drew ?_ | refine Fr.drewN ?_ _))⟩) (first
        | (go_at_call 63; refine (HR.out _ (f1.transNo (by repeat (first | assumption | exact Fr.refl _ _ | refine Fr.alloc ?_ _ | refine Fr.drew ?_ | refine Fr.drewN ?_ _)))).mono ?_; rintro e w5 ⟨z, rfl, z1, z2, f5⟩; have Q5 : Fr No w1 w5 := Fr.transNo (by repeat (first | assumption | exact Fr.refl _ _ | refine Fr.alloc ?_ _ | refine Fr.drew ?_ | refine Fr.drewN ?_ _)) f5; clear f5)
        | (go_at_call 54; refine (HH.out _ _ _).mono ?_; rintro e w6 ⟨y, rfl, f6⟩; have Q6 : Fr No w1 w6 := Fr.transNo (by repeat (first | assumption | exact Fr.refl _ _ | refine Fr.alloc ?_ _ | refine Fr.drew ?_ | refine Fr.drewN ?_ _)) f6; clear f6))
      all_goals
        go_wp2_with fail
        go_ret
        exact AnyB.of (f1.transNo (by repeat (first | assumption | exact Fr.refl _ _ | refine Fr.alloc ?_ _ | refine Fr.drew ?_ | refine Fr.drewN ?_ _)))
    · have b2 : decide (t < (nt : Int)) = false := decide_eq_false h2
      clear hten
      have HR := Lib.hid hR
      have HH := Lib.hid hH
      have HKA := Lib.hid hka
      have HW1 := Lib.hid hw1
      have HG := Lib.hid hg
      have HB1 := Lib.hid hb1
      clear hR hH hka hw1 hg hb1
      go_enter Tryd.func55, Tryd.ntmps55
      go_upto_region 1 with fail
      rw [← HW1.out, ← HG.out]
      obtain ⟨e0, e1, e2, e3, e4, e5, e6, e7, e8, e9⟩ := HKA.out w1 (Fr.refl _ _)
      go_region
      go_wp2_with fail
      go_ret
      exact AnyB.of (f1.transNo (by repeat (first | assumption | exact Fr.refl _ _ | refine Fr.alloc ?_ _ | refine Fr.drew ?_ | refine Fr.drewN ?_ _)))
  · have b1 : decide (0 ≤ t) = false := decide_eq_false h1
    clear hten
    have HR := Lib.hid hR
    have HH := Lib.hid hH
    have HKA := Lib.hid hka
    have HW1 := Lib.hid hw1
    have HG := Lib.hid hg
    have HB1 := Lib.hid hb1
    clear hR hH hka hw1 hg hb1
    go_enter Tryd.func55, Tryd.ntmps55
    go_upto_region 1 with fail
    rw [← HW1.out, ← HG.out]
    obtain ⟨e0, e1, e2, e3, e4, e5, e6, e7, e8, e9⟩ := HKA.out w1 (Fr.refl _ _)
    go_region
    go_wp2_with fail
    go_ret
    exact AnyB.of (f1.transNo (by repeat (first | assumption | exact Fr.refl _ _ | refine Fr.alloc ?_ _ | refine Fr.drew ?_ | refine Fr.drewN ?_ _)))
set_option maxRecDepth 100000 in
set_option maxHeartbeats 4000000 in
theorem apart_any {w : World} {c : Cf} (h : CfOk w c) (i j : Int) : Calls Tryd.prog 56 #[.agg c.arr, .int .i64 i, .int .i64 j] w (AnyB w) := by
  have hR := fun i W (hf : Fr No w W) => regionOf_any (h.frNo hf) i
  obtain ⟨rg, nz, nc, nt, nv, le, bk, bz, bc, bv, cz, cc, ct, cv, At, Ar, nr, cr, Ao, no_, co, bl⟩ := c
  simp only at *
  clear h
  obtain ⟨w1, hw1⟩ : ∃ w1, w1 = w.alloc (.cells (Cf.arr ⟨rg, nz, nc, nt, nv, le, bk, bz, bc, bv, cz, cc, ct, cv, At, Ar, nr, cr, Ao, no_, co, bl⟩) TCf) := ⟨_, rfl⟩
  obtain ⟨g, hg⟩ : ∃ g, g = w.heap.size := ⟨_, rfl⟩
  have hb1 : Blk w1 g TCf (Cf.arr ⟨rg, nz, nc, nt, nv, le, bk, bz, bc, bv, cz, cc, ct, cv, At, Ar, nr, cr, Ao, no_, co, bl⟩) := by rw [hw1, hg]; exact Blk.new _ _ _
  have f1 : Fr No w w1 := by rw [hw1]; exact fr_alloc _ _
  have hka : ∀ V, Fr No w1 V → V.cell? ⟨g, 0, none⟩ = some (.int .i64 (rg : Int)) ∧ V.cell? ⟨g, 1, none⟩ = some (.slice (some ⟨bz, 0, none⟩) nz cz) ∧ V.cell? ⟨g, 2, none⟩ = some (.slice (some ⟨bc, 0, none⟩) nc cc) ∧ V.cell? ⟨g, 3, none⟩ = some (.slice At nt ct) ∧ V.cell? ⟨g, 4, none⟩ = some (.slice (some ⟨bv, 0, none⟩) nv cv) ∧ V.cell? ⟨g, 5, none⟩ = some (.slice Ar nr cr) ∧ V.cell? ⟨g, 6, none⟩ = some (.slice Ao no_ co) ∧ V.cell? ⟨g, 7, none⟩ = some (.int .i64 bl) ∧ V.cell? ⟨g, 8, none⟩ = some (.int .i64 (le : Int)) ∧ V.cell? ⟨g, 9, none⟩ = some (.int .i64 (bk : Int)) := fun V hf => let k := hb1.fr hf (fun h => h); ⟨k.cell 0, k.cell 1, k.cell 2, k.cell 3, k.cell 4, k.cell 5, k.cell 6, k.cell 7, k.cell 8, k.cell 9⟩
  simp only [Cf.arr] at hw1
  have HR := Lib.hid hR
  have HKA := Lib.hid hka
  have HW1 := Lib.hid hw1
  have HG := Lib.hid hg
  have HB1 := Lib.hid hb1
  clear hR hka hw1 hg hb1
  go_enter Tryd.func56, Tryd.ntmps56
  go_upto_region 1 with fail
  rw [← HW1.out, ← HG.out]
  obtain ⟨e0, e1, e2, e3, e4, e5, e6, e7, e8, e9⟩ := HKA.out w1 (Fr.refl _ _)
  go_region_held3 (fun V => Fr No w1 V ∧ V.cell? ⟨g, 0, none⟩ = some (.int .i64 (rg : Int)) ∧ V.cell? ⟨g, 1, none⟩ = some (.slice (some ⟨bz, 0, none⟩) nz cz) ∧ V.cell? ⟨g, 2, none⟩ = some (.slice (some ⟨bc, 0, none⟩) nc cc) ∧ V.cell? ⟨g, 3, none⟩ = some (.slice At nt ct) ∧ V.cell? ⟨g, 4, none⟩ = some (.slice (some ⟨bv, 0, none⟩) nv cv) ∧ V.cell? ⟨g, 5, none⟩ = some (.slice Ar nr cr) ∧ V.cell? ⟨g, 6, none⟩ = some (.slice Ao no_ co) ∧ V.cell? ⟨g, 7, none⟩ = some (.int .i64 bl) ∧ V.cell? ⟨g, 8, none⟩ = some (.int .i64 (le : Int)) ∧ V.cell? ⟨g, 9, none⟩ = some (.int .i64 (bk : Int))) (exact ⟨(by repeat (first | assumption | exact Fr.refl _ _ | refine Fr.alloc ?_ _ | refine Fr.drew ?_ | refine Fr.drewN ?_ _)), HKA.out _ (by repeat (first | assumption | exact Fr.refl _ _ | refine Fr.alloc ?_ _ | refine Fr.drew ?_ | refine Fr.drewN ?_ _))⟩) (first
    | (go_at_call 63; refine (HR.out _ _ (f1.transNo (by repeat (first | assumption | exact Fr.refl _ _ | refine Fr.alloc ?_ _ | refine Fr.drew ?_ | refine Fr.drewN ?_ _)))).mono ?_; rintro e w5 ⟨z, rfl, z1, z2, f5⟩; have Q5 : Fr No w1 w5 := Fr.transNo (by repeat (first | assumption | exact Fr.refl _ _ | refine Fr.alloc ?_ _ | refine Fr.drew ?_ | refine Fr.drewN ?_ _)) f5; clear f5))
  all_goals go_wp2_with fail
  all_goals (go_ret; exact AnyB.of (f1.transNo (by repeat (first | assumption | exact Fr.refl _ _ | refine Fr.alloc ?_ _ | refine Fr.drew ?_ | refine Fr.drewN ?_ _))))
end Go.Proofs.YtanhbebikcoliaaDoor
/- Configurations: Homes, Standbys; picks of a tape. -/
namespace Go.Proofs.YtanhbebikcoliaaDoor
open Go.ChangeShapes Go.WideShapes Go.ChangeAt Go.RowKit
set_option linter.unusedVariables false
abbrev TIm : TypeId := 3
theorem intm_info : (Tryd.prog.info? TIm).map (fun i => (i.zero, i.size, i.bytes)) = some (some (.int .i64 0), 1, 8) := by kernel_rfl
theorem infom {t : TypeId} {z : Value} {s b : Nat} (h : (Tryd.prog.info? t).map (fun i => (i.zero, i.size, i.bytes)) = some (some z, s, b)) : ∃ i, Tryd.prog.info? t = some i ∧ i.zero = some z ∧ i.size = s ∧ i.bytes = b := by
  cases hi : Tryd.prog.info? t with
  | none => rw [hi] at h; cases h
  | some i =>
    rw [hi] at h
    have h : some (i.zero, i.size, i.bytes) = some (some z, s, b) := h
    injection h with h
    injection h with h1 h
    injection h with h2 h3
    exact ⟨i, rfl, h1, h2, h3⟩
def ivL (l : List Int) : List Value := l.map fun i => .int .i64 i
theorem ivL_len (l : List Int) : (ivL l).length = l.length := by simp [ivL]
/-- A row of at most k numbers that was made since w0. -/
def IntL (w0 : World) (k : Nat) (v : Value) (w : World) : Prop := ∃ (l : List Int) (A : Option Addr) (c : Nat), (l.length ≤ k ∧ ∀ y ∈ l, -1 ≤ y ∧ y < 16) ∧ v = .slice A l.length c ∧ Own w (fun b => w0.heap.size ≤ b) TIm v (ivL l) ∧ Fr No w0 w
theorem IntL.nil (w : World) (k : Nat) : IntL w k (.slice none 0 0) w := ⟨[], none, 0, ⟨Nat.zero_le _, by simp⟩, rfl, Own.nil _ _ _, Fr.refl _ _⟩
theorem IntL.nilFr {w0 w : World} (k : Nat) (h : Fr No w0 w) : IntL w0 k (.slice none 0 0) w := ⟨[], none, 0, ⟨Nat.zero_le _, by simp⟩, rfl, Own.nil _ _ _, h⟩
theorem IntL.frNo {w0 w w' : World} {k : Nat} {v : Value} (h : IntL w0 k v w) (hf : Fr No w w') : IntL w0 k v w' := by
  obtain ⟨l, A, c, h1, rfl, h2, h3⟩ := h
  exact ⟨l, A, c, h1, rfl, h2.frNo hf, h3.transNo hf⟩
theorem IntL.more {w0 w : World} {k k' : Nat} {v : Value} (h : IntL w0 k v w) (hk : k ≤ k') : IntL w0 k' v w := by
  obtain ⟨l, A, c, h1, rfl, h2, h3⟩ := h
  exact ⟨l, A, c, ⟨by omega, h1.2⟩, rfl, h2, h3⟩
theorem IntL.since {w0 w1 w : World} {k : Nat} {v : Value} (h : IntL w1 k v w) (hf : Fr No w0 w1) : IntL w0 k v w := by
  obtain ⟨l, A, c, h1, rfl, h2, h3⟩ := h
  exact ⟨l, A, c, h1, rfl, h2.mono fun i hi => Nat.le_trans hf.size hi, hf.transNo h3⟩
theorem IntL.snoc {w0 wr w' : World} {l : List Int} {k : Nat} {A : Option Addr} {c : Nat} {v' : Value} {x : Int} {o : Obj} (hl : l.length ≤ k ∧ ∀ y ∈ l, -1 ≤ y ∧ y < 16) (hx : -1 ≤ x ∧ x < 16) (ho : Own wr (fun b => w0.heap.size ≤ b) TIm (.slice A l.length c) (ivL l)) (hf : Fr No w0 wr)
    (ha : Appended (wr.alloc o) 0 TIm (.slice A l.length c) l.length (ivL l) [.int .i64 x] 1 v' w') : IntL w0 (k + 1) v' w' := by
  have hs := (hf.alloc o).size
  obtain ⟨o1, f1⟩ := (ho.frNo (fr_alloc _ _)).appendedNew (B := w0.heap.size) (by simpa using hs) (ivL_len l) rfl ha
  obtain ⟨A', c', rfl, -⟩ := o1.form
  have e : ivL (l ++ [x]) = ivL l ++ [.int .i64 x] := by simp [ivL]
  have e2 : (ivL l ++ [Value.int .i64 x]).length = (l ++ [x]).length := by simp [ivL]
  refine ⟨l ++ [x], A', c', ⟨by have := hl.1; simp; omega, fun y hy => by rcases List.mem_append.1 hy with hy | hy; exact hl.2 y hy; rw [List.mem_singleton] at hy; rw [hy]; exact hx⟩, by rw [e2], ?_, (hf.alloc _).transNew f1 fun i hi => hi⟩
  rw [e]
  exact o1
def IntLTo (w : World) (k : Nat) (e : Ending) (w' : World) : Prop := ∃ v, e = .returned v ∧ IntL w k v w'
set_option maxRecDepth 100000 in
set_option maxHeartbeats 4000000 in
theorem homes_any {w : World} {c : Cf} (h : CfOk w c) (t : Int) : Calls Tryd.prog 40 #[.agg c.arr, .int .i64 t] w (IntLTo w 16) := by
  obtain ⟨i1, hi1, hz0, hz1, hz2⟩ := infom intm_info
  have hM := fun i W (hf : Fr No w W) => may_any (h.frNo hf) t i
  have hnc2 := h.nc2
  obtain ⟨rg, nz, nc, nt, nv, le, bk, bz, bc, bv, cz, cc, ct, cv, At, Ar, nr, cr, Ao, no_, co, bl⟩ := c
  simp only at *
  clear h
  obtain ⟨w1, hw1⟩ : ∃ w1, w1 = w.alloc (.cells (Cf.arr ⟨rg, nz, nc, nt, nv, le, bk, bz, bc, bv, cz, cc, ct, cv, At, Ar, nr, cr, Ao, no_, co, bl⟩) TCf) := ⟨_, rfl⟩
  obtain ⟨g, hg⟩ : ∃ g, g = w.heap.size := ⟨_, rfl⟩
  have hb1 : Blk w1 g TCf (Cf.arr ⟨rg, nz, nc, nt, nv, le, bk, bz, bc, bv, cz, cc, ct, cv, At, Ar, nr, cr, Ao, no_, co, bl⟩) := by rw [hw1, hg]; exact Blk.new _ _ _
  have f1 : Fr No w w1 := by rw [hw1]; exact fr_alloc _ _
  have hka : ∀ V, Fr No w1 V → V.cell? ⟨g, 0, none⟩ = some (.int .i64 (rg : Int)) ∧ V.cell? ⟨g, 1, none⟩ = some (.slice (some ⟨bz, 0, none⟩) nz cz) ∧ V.cell? ⟨g, 2, none⟩ = some (.slice (some ⟨bc, 0, none⟩) nc cc) ∧ V.cell? ⟨g, 3, none⟩ = some (.slice At nt ct) ∧ V.cell? ⟨g, 4, none⟩ = some (.slice (some ⟨bv, 0, none⟩) nv cv) ∧ V.cell? ⟨g, 5, none⟩ = some (.slice Ar nr cr) ∧ V.cell? ⟨g, 6, none⟩ = some (.slice Ao no_ co) ∧ V.cell? ⟨g, 7, none⟩ = some (.int .i64 bl) ∧ V.cell? ⟨g, 8, none⟩ = some (.int .i64 (le : Int)) ∧ V.cell? ⟨g, 9, none⟩ = some (.int .i64 (bk : Int)) := fun V hf => let k := hb1.fr hf (fun h => h); ⟨k.cell 0, k.cell 1, k.cell 2, k.cell 3, k.cell 4, k.cell 5, k.cell 6, k.cell 7, k.cell 8, k.cell 9⟩
  simp only [Cf.arr] at hw1
  have HM := Lib.hid hM
  have HKA := Lib.hid hka
  have HW1 := Lib.hid hw1
  have HG := Lib.hid hg
  have HB1 := Lib.hid hb1
  clear hM hka hw1 hg hb1
  go_enter Tryd.func40, Tryd.ntmps40
  go_upto_region 1 with fail
  rw [← HW1.out, ← HG.out]
  clear HW1 HB1
  go_wp2_with fail
  go_loopw [5, 6] (fun v i wr => ∃ k : Nat, k ≤ nc ∧ i = .int .i64 k ∧ IntL w1 k v wr) (fun _ i _ => nc - (intOf i).toNat)
  case atStart => exact ⟨0, Nat.zero_le _, rfl, IntL.nil _ _⟩
  case round =>
    obtain ⟨k, hk, rfl, l, A, c, hl, rfl, ho, hf⟩ := hrel
    obtain ⟨c0, c1, c2, c3, c4, c5, c6, c7, c8, c9⟩ := HKA.out _ hf
    by_cases hlt : k < nc
    · have b1 : decide (k < nc) = true := decide_eq_true hlt
      have b2 : decide ((k : Int) < (nc : Int)) = true := decide_eq_true (by omega)
      have hend := fun W' (hW : Fr No wr W') => (IntL.frNo ⟨l, A, c, hl, rfl, ho, hf⟩ hW : IntL w1 k (.slice A l.length c) W')
      have how := fun W' (hW : Fr No wr W') => ho.frNo hW
      have HEND := Lib.hid hend
      have HOW := Lib.hid how
      clear hend how
      clear ho
      go_wp2_with fail
      refine (HM.out _ _ (f1.transNo hf)).mono ?_
      rintro e w2 ⟨b, rfl, f2⟩
      rcases b with _ | _
      · go_wp2_with fail
        go_roundw
        case rel => exact ⟨k + 1, by omega, by go_num, (HEND.out _ (by repeat (first | assumption | exact Fr.refl _ _ | refine Fr.alloc ?_ _ | refine Fr.drew ?_ | refine Fr.drewN ?_ _))).more (Nat.le_succ _)⟩
        case measure => simp [intOf]; omega
      · have hl2 := l.length_map (f := fun i : Int => (Value.int .i64 i))
        go_wp2_with (at_builtin; refine wpList_append_rd _ rfl (.tmp 18) (.tmp 20) _ rfl 0 TIm i1 _ 8 Tryd.underlying22 hi1 hz0 hz1 hz2 rfl (.slice A l.length c) l.length (ivL l) rfl ((HOW.out _ (f2.alloc _)).own (ivL_len l)) (w2.heap.size + 1) (some ⟨w2.heap.size, 0, none⟩) 1 1 [.int .i64 (k : Int)] rfl (fun h => by cases h) (Rd.new w2 _ TIm rfl) rfl (fun u hu => by simp at hu; subst hu; rfl) (by unfold maxLen; omega) (by omega) (Nat.zero_le _) ?_)
        intro v1 w6 happ
        have T9 := Lib.hid (IntL.snoc hl (by omega) (HOW.out _ f2) (hf.transNo f2) happ)
        clear happ
        go_wp2_with fail
        go_roundw
        case rel => exact ⟨k + 1, by omega, by go_num, T9.out⟩
        case measure => simp [intOf]; omega
    · obtain rfl : k = nc := by omega
      have b1 : decide (k < k) = false := by simp
      have b2 : decide ((k : Int) < (k : Int)) = false := by simp
      have T9 := Lib.hid (show IntL w1 k (.slice A l.length c) wr from ⟨l, A, c, hl, rfl, ho, hf⟩)
      clear ho
      go_wp2_with fail
      go_ret
      exact ⟨_, rfl, (T9.out.since f1).more (by omega)⟩
set_option maxRecDepth 100000 in
set_option maxHeartbeats 4000000 in
theorem standbys_any {w : World} {c : Cf} (h : CfOk w c) (t hm : Int) : Calls Tryd.prog 41 #[.agg c.arr, .int .i64 t, .int .i64 hm] w (IntLTo w 16) := by
  obtain ⟨i1, hi1, hz0, hz1, hz2⟩ := infom intm_info
  have hM := fun i W (hf : Fr No w W) => may_any (h.frNo hf) t i
  have hA := fun i W (hf : Fr No w W) => apart_any (h.frNo hf) hm i
  have hnc2 := h.nc2
  obtain ⟨rg, nz, nc, nt, nv, le, bk, bz, bc, bv, cz, cc, ct, cv, At, Ar, nr, cr, Ao, no_, co, bl⟩ := c
  simp only at *
  clear h
  obtain ⟨w1, hw1⟩ : ∃ w1, w1 = w.alloc (.cells (Cf.arr ⟨rg, nz, nc, nt, nv, le, bk, bz, bc, bv, cz, cc, ct, cv, At, Ar, nr, cr, Ao, no_, co, bl⟩) TCf) := ⟨_, rfl⟩
  obtain ⟨g, hg⟩ : ∃ g, g = w.heap.size := ⟨_, rfl⟩
  have hb1 : Blk w1 g TCf (Cf.arr ⟨rg, nz, nc, nt, nv, le, bk, bz, bc, bv, cz, cc, ct, cv, At, Ar, nr, cr, Ao, no_, co, bl⟩) := by rw [hw1, hg]; exact Blk.new _ _ _
  have f1 : Fr No w w1 := by rw [hw1]; exact fr_alloc _ _
  have hka : ∀ V, Fr No w1 V → V.cell? ⟨g, 0, none⟩ = some (.int .i64 (rg : Int)) ∧ V.cell? ⟨g, 1, none⟩ = some (.slice (some ⟨bz, 0, none⟩) nz cz) ∧ V.cell? ⟨g, 2, none⟩ = some (.slice (some ⟨bc, 0, none⟩) nc cc) ∧ V.cell? ⟨g, 3, none⟩ = some (.slice At nt ct) ∧ V.cell? ⟨g, 4, none⟩ = some (.slice (some ⟨bv, 0, none⟩) nv cv) ∧ V.cell? ⟨g, 5, none⟩ = some (.slice Ar nr cr) ∧ V.cell? ⟨g, 6, none⟩ = some (.slice Ao no_ co) ∧ V.cell? ⟨g, 7, none⟩ = some (.int .i64 bl) ∧ V.cell? ⟨g, 8, none⟩ = some (.int .i64 (le : Int)) ∧ V.cell? ⟨g, 9, none⟩ = some (.int .i64 (bk : Int)) := fun V hf => let k := hb1.fr hf (fun h => h); ⟨k.cell 0, k.cell 1, k.cell 2, k.cell 3, k.cell 4, k.cell 5, k.cell 6, k.cell 7, k.cell 8, k.cell 9⟩
  simp only [Cf.arr] at hw1
  have HM := Lib.hid hM
  have HA := Lib.hid hA
  have HKA := Lib.hid hka
  have HW1 := Lib.hid hw1
  have HG := Lib.hid hg
  have HB1 := Lib.hid hb1
  clear hM hA hka hw1 hg hb1
  go_enter Tryd.func41, Tryd.ntmps41
  go_upto_region 1 with fail
  rw [← HW1.out, ← HG.out]
  clear HW1 HB1
  go_wp2_with fail
  go_loopw [7, 8] (fun v i wr => ∃ k : Nat, k ≤ nc ∧ i = .int .i64 k ∧ IntL w1 k v wr) (fun _ i _ => nc - (intOf i).toNat)
  case atStart => exact ⟨0, Nat.zero_le _, rfl, IntL.nil _ _⟩
  case round =>
    obtain ⟨k, hk, rfl, l, A, c, hl, rfl, ho, hf⟩ := hrel
    obtain ⟨c0, c1, c2, c3, c4, c5, c6, c7, c8, c9⟩ := HKA.out _ hf
    by_cases hlt : k < nc
    · have b1 : decide (k < nc) = true := decide_eq_true hlt
      have b2 : decide ((k : Int) < (nc : Int)) = true := decide_eq_true (by omega)
      have hend := fun W' (hW : Fr No wr W') => (IntL.frNo ⟨l, A, c, hl, rfl, ho, hf⟩ hW : IntL w1 k (.slice A l.length c) W')
      have how := fun W' (hW : Fr No wr W') => ho.frNo hW
      have HEND := Lib.hid hend
      have HOW := Lib.hid how
      clear hend how
      clear ho
      go_wp2_with fail
      refine (HM.out _ _ (f1.transNo hf)).mono ?_
      rintro e w2 ⟨b, rfl, f2⟩
      rcases b with _ | _
      · go_wp2_with fail
        go_roundw
        case rel => exact ⟨k + 1, by omega, by go_num, (HEND.out _ (by repeat (first | assumption | exact Fr.refl _ _ | refine Fr.alloc ?_ _ | refine Fr.drew ?_ | refine Fr.drewN ?_ _))).more (Nat.le_succ _)⟩
        case measure => simp [intOf]; omega
      · obtain ⟨c0, c1, c2, c3, c4, c5, c6, c7, c8, c9⟩ := HKA.out _ (hf.transNo f2)
        go_wp2_with fail
        refine (HA.out _ _ (f1.transNo (hf.transNo f2))).mono ?_
        rintro e w3 ⟨b, rfl, f3⟩
        have f4 := f2.transNo f3
        rcases b with _ | _
        · go_wp2_with fail
          go_roundw
          case rel => exact ⟨k + 1, by omega, by go_num, (HEND.out _ (by repeat (first | assumption | exact Fr.refl _ _ | refine Fr.alloc ?_ _ | refine Fr.drew ?_ | refine Fr.drewN ?_ _))).more (Nat.le_succ _)⟩
          case measure => simp [intOf]; omega
        · have hl2 := l.length_map (f := fun i : Int => (Value.int .i64 i))
          go_wp2_with (at_builtin; refine wpList_append_rd _ rfl (.tmp 26) (.tmp 28) _ rfl 0 TIm i1 _ 8 Tryd.underlying22 hi1 hz0 hz1 hz2 rfl (.slice A l.length c) l.length (ivL l) rfl ((HOW.out _ (f4.alloc _)).own (ivL_len l)) (w3.heap.size + 1) (some ⟨w3.heap.size, 0, none⟩) 1 1 [.int .i64 (k : Int)] rfl (fun h => by cases h) (Rd.new w3 _ TIm rfl) rfl (fun u hu => by simp at hu; subst hu; rfl) (by unfold maxLen; omega) (by omega) (Nat.zero_le _) ?_)
          intro v1 w6 happ
          have T9 := Lib.hid (IntL.snoc hl (by omega) (HOW.out _ f4) (hf.transNo f4) happ)
          clear happ
          go_wp2_with fail
          go_roundw
          case rel => exact ⟨k + 1, by omega, by go_num, T9.out⟩
          case measure => simp [intOf]; omega
    · obtain rfl : k = nc := by omega
      have b1 : decide (k < k) = false := by simp
      have b2 : decide ((k : Int) < (k : Int)) = false := by simp
      have T9 := Lib.hid (show IntL w1 k (.slice A l.length c) wr from ⟨l, A, c, hl, rfl, ho, hf⟩)
      clear ho
      go_wp2_with fail
      go_ret
      exact ⟨_, rfl, (T9.out.since f1).more (by omega)⟩
set_option maxHeartbeats 4000000 in
theorem pick_any {w0 w : World} {t : Nat} {A : Option Addr} {n c k : Nat} (h : Tp w t A n c k) (hk : k ≤ 1000000) {v : Value} (hv : IntL w0 16 v w) (ht : t < w0.heap.size) :
    Calls Tryd.prog 39 #[.pointer (some ⟨t, 0, none⟩), v] w fun e w' => ∃ x : Int, e = .returned (.int .i64 x) ∧ (-1 ≤ x ∧ x < 16) ∧ TpTo w t A n c k 1 w' := by
  obtain ⟨l, B, c2, hl, rfl, ho, hf⟩ := hv
  by_cases h0 : l.length = 0
  · have b0 : ((l.length : Int) == 0) = true := beq_iff_eq.mpr (by omega)
    have hT := h
    replace hl := hl.1
    generalize l.length = m at *
    subst h0
    have HT := Lib.hid hT
    have HO := Lib.hid ho
    clear hT ho
    clear h
    go_enter Tryd.func39, Tryd.ntmps39
    go_wp2_with fail
    go_ret
    exact ⟨_, rfl, by omega, k, Nat.le_refl _, by omega, HT.out, Fr.refl _ _⟩
  · have b0 : ((l.length : Int) == 0) = false := beq_eq_false_iff_ne.mpr (by omega)
    obtain ⟨b, rfl, hbl, hF, hrow⟩ := own_head ho (by omega)
    have hrow2 : ∀ W, Fr (fun i => i = t) w W → ∀ i, i < l.length → ∃ x : Int, W.cell? ⟨b, i, none⟩ = some (.int .i64 x) ∧ -1 ≤ x ∧ x < 16 := fun W hW i hi => by
      have h1 := (hrow i (by rw [ivL_len]; exact hi)).1
      refine ⟨l[i], ?_, hl.2 _ (List.getElem_mem _)⟩
      rw [(hW.cell (p := ⟨b, i, none⟩) hbl (fun e => by have e : b = t := e; have hF : w0.heap.size ≤ b := hF; omega)), h1]
      simp [ivL]
    have hlt := h.blk.lt
    have hl16 := hl.1
    clear hl
    generalize l.length = m at *
    have hT := h
    have HT := Lib.hid hT
    have HROW2 := Lib.hid hrow2
    clear hT hrow2
    clear h hrow ho
    go_enter Tryd.func39, Tryd.ntmps39
    go_wp2_with fail
    refine (next_any HT.out hk _ (by omega) (by omega)).mono ?_
    rintro e w2 ⟨x, rfl, x1, x2, k', k1, k2, -, hT2, f2⟩
    obtain ⟨i, rfl, hi⟩ := nat_of (i := x) (n := m) (by omega) (by omega)
    obtain ⟨y, hy, hy1, hy2⟩ := HROW2.out _ f2 i hi
    have hix : (0 : Int) ≤ (i : Int) ∧ (i : Int) < (m : Int) := by omega
    have HT2 := Lib.hid hT2
    clear hT2
    go_wp2_with fail
    go_ret
    exact ⟨_, rfl, by omega, k', k1, k2, HT2.out, f2⟩
end Go.Proofs.YtanhbebikcoliaaDoor
/- States of the control log: where they lie. -/
namespace Go.Proofs.YtanhbebikcoliaaDoor
open Go.ChangeShapes Go.WideShapes Go.ChangeAt Go.RowKit
set_option linter.unusedVariables false
abbrev TSt : TypeId := 56
abbrev TTs : TypeId := 83
abbrev TCs : TypeId := 108
abbrev TEm : TypeId := 24
structure St where
  tk : Int
  cn : Int
  Bt : Option Addr
  mt : Nat
  dt : Nat
  Bs : Option Addr
  ms : Nat
  ds : Nat
  pr : Int
  ev : Int
  lo : Int
  hi : Int
abbrev St.arr (s : St) : Array Value := #[.int .i64 s.tk, .int .i64 s.cn, .slice s.Bt s.mt s.dt, .slice s.Bs s.ms s.ds, .int .i64 s.pr, .int .i64 s.ev, .int .i64 s.lo, .int .i64 s.hi]
abbrev stZero : St := ⟨0, 0, none, 0, 0, none, 0, 0, 0, 0, 0, 0⟩
/-- What the log says of a tenant. -/
structure Ts where
  pl : Bool
  sh : Bool
  hm : Int
  sb : Int
  nx : Int
  tg : Int
  ep : Int
  wc : Int
  we : Int
  wv : Int
  wf : Int
  wu : Int
def Ts.cells (t : Ts) : List Value := [.bool t.pl, .bool t.sh, .int .i64 t.hm, .int .i64 t.sb, .int .i64 t.nx, .int .i64 t.tg, .int .i64 t.ep, .int .i64 t.wc, .int .i64 t.we, .int .i64 t.wv, .int .i64 t.wf, .int .i64 t.wu]
/-- A number of 64 bits. -/
def okI (x : Int) : Prop := -9223372036854775808 ≤ x ∧ x ≤ 9223372036854775807
theorem ok64 (z : Int) : okI (wrap64 z) := by
  unfold okI wrap64
  omega
/-- Its cells are cells. -/
structure TsOk (nc : Nat) (t : Ts) : Prop where
  hm : -1 ≤ t.hm ∧ t.hm < nc
  sb : -1 ≤ t.sb ∧ t.sb < nc
  nx : -1 ≤ t.nx ∧ t.nx < nc
  tg : -1 ≤ t.tg ∧ t.tg < nc
  pl : t.pl = true → 0 ≤ t.hm
  sh : t.sh = true → t.pl = true
  nu : okI t.ep ∧ okI t.wu
def TsRows (nc nt : Nat) (cur : Array Value) : Prop := ∀ i, i < nt → ∃ t : Ts, TsOk nc t ∧ ∀ j, j < 12 → cur[i * 12 + j]? = t.cells[j]?
def CsRows (nc nv : Nat) (cur : Array Value) : Prop := ∀ i, i < nc → ∃ (m : Int) (r a : Nat) (s : Int), r < nv ∧ a < nv ∧ cur[i * 4]? = some (.int .i64 m) ∧ cur[i * 4 + 1]? = some (.int .i64 (r : Int)) ∧ cur[i * 4 + 2]? = some (.int .i64 (a : Int)) ∧ cur[i * 4 + 3]? = some (.int .i64 s)
/-- A state fits a configuration; its rows lie in blocks of G. -/
structure StOk (w : World) (G : Nat → Prop) (c : Cf) (s : St) : Prop where
  mt : s.mt = c.nt
  ms : s.ms = c.nc
  dt : s.mt ≤ s.dt ∧ s.dt ≤ maxLen
  ds : s.ms ≤ s.ds ∧ s.ds ≤ maxLen
  cells : ∃ b cur, s.Bs = some ⟨b, 0, none⟩ ∧ G b ∧ Blk w b TCs cur ∧ CsRows c.nc c.nv cur
  tens : c.nt = 0 ∨ ∃ b cur, s.Bt = some ⟨b, 0, none⟩ ∧ G b ∧ Blk w b TTs cur ∧ TsRows c.nc c.nt cur
  nil : s.Bt = none → s.mt = 0
theorem StOk.fr {w w' : World} {F G : Nat → Prop} {c : Cf} {s : St} (h : StOk w G c s) (hf : Fr F w w') (hF : ∀ i, G i → ¬ F i) : StOk w' G c s := by
  obtain ⟨h1, h2, h3, h4, ⟨b, cur, h5, h6, h7, h8⟩, h9, h10⟩ := h
  refine ⟨h1, h2, h3, h4, ⟨b, cur, h5, h6, h7.fr hf (hF b h6), h8⟩, h9.imp id ?_, h10⟩
  rintro ⟨b, cur, h5, h6, h7, h8⟩
  exact ⟨b, cur, h5, h6, h7.fr hf (hF b h6), h8⟩
theorem StOk.frNo {w w' : World} {G : Nat → Prop} {c : Cf} {s : St} (h : StOk w G c s) (hf : Fr No w w') : StOk w' G c s := h.fr hf fun _ _ h => h
theorem StOk.mono {w : World} {F G : Nat → Prop} {c : Cf} {s : St} (h : StOk w G c s) (hG : ∀ i, G i → F i) : StOk w F c s := by
  obtain ⟨h1, h2, h3, h4, ⟨b, cur, h5, h6, h7, h8⟩, h9, h10⟩ := h
  refine ⟨h1, h2, h3, h4, ⟨b, cur, h5, hG b h6, h7, h8⟩, h9.imp id ?_, h10⟩
  rintro ⟨b, cur, h5, h6, h7, h8⟩
  exact ⟨b, cur, h5, hG b h6, h7, h8⟩
/-- The cells of a cell's state, in all worlds behind. -/
theorem StOk.cell {w : World} {G : Nat → Prop} {c : Cf} {s : St} (h : StOk w G c s) {i : Nat} (hi : i < c.nc) : ∃ (b : Nat) (m : Int) (r a : Nat) (e : Int), s.Bs = some ⟨b, 0, none⟩ ∧ G b ∧ b < w.heap.size ∧ r < c.nv ∧ a < c.nv ∧
    ∀ V, Fr No w V → V.cell? ⟨b, i * 4, none⟩ = some (.int .i64 m) ∧ V.cell? ⟨b, i * 4 + 1, none⟩ = some (.int .i64 (r : Int)) ∧ V.cell? ⟨b, i * 4 + 2, none⟩ = some (.int .i64 (a : Int)) ∧ V.cell? ⟨b, i * 4 + 3, none⟩ = some (.int .i64 e) := by
  obtain ⟨b, cur, h5, h6, h7, h8⟩ := h.cells
  obtain ⟨m, r, a, e, hr, ha, c0, c1, c2, c3⟩ := h8 i hi
  exact ⟨b, m, r, a, e, h5, h6, h7.lt, hr, ha, fun V hf => let k := h7.fr hf fun h => h; ⟨(k.cell _).trans c0, (k.cell _).trans c1, (k.cell _).trans c2, (k.cell _).trans c3⟩⟩
/-- The cells of a tenant's state, in all worlds behind. -/
theorem StOk.ten {w : World} {G : Nat → Prop} {c : Cf} {s : St} (h : StOk w G c s) {i : Nat} (hi : i < c.nt) : ∃ (b : Nat) (t : Ts), s.Bt = some ⟨b, 0, none⟩ ∧ G b ∧ b < w.heap.size ∧ TsOk c.nc t ∧
    ∀ V, Fr No w V → V.cell? ⟨b, i * 12, none⟩ = some (.bool t.pl) ∧ V.cell? ⟨b, i * 12 + 1, none⟩ = some (.bool t.sh) ∧ V.cell? ⟨b, i * 12 + 2, none⟩ = some (.int .i64 t.hm) ∧ V.cell? ⟨b, i * 12 + 3, none⟩ = some (.int .i64 t.sb) ∧ V.cell? ⟨b, i * 12 + 4, none⟩ = some (.int .i64 t.nx) ∧ V.cell? ⟨b, i * 12 + 5, none⟩ = some (.int .i64 t.tg) ∧ V.cell? ⟨b, i * 12 + 6, none⟩ = some (.int .i64 t.ep) ∧ V.cell? ⟨b, i * 12 + 7, none⟩ = some (.int .i64 t.wc) ∧ V.cell? ⟨b, i * 12 + 8, none⟩ = some (.int .i64 t.we) ∧ V.cell? ⟨b, i * 12 + 9, none⟩ = some (.int .i64 t.wv) ∧ V.cell? ⟨b, i * 12 + 10, none⟩ = some (.int .i64 t.wf) ∧ V.cell? ⟨b, i * 12 + 11, none⟩ = some (.int .i64 t.wu) := by
  obtain ⟨b, cur, h5, h6, h7, h8⟩ := h.tens.resolve_left (by omega)
  obtain ⟨t, ht, hc⟩ := h8 i hi
  exact ⟨b, t, h5, h6, h7.lt, ht, fun V hf => let k := h7.fr hf fun h => h; ⟨(k.cell _).trans (hc 0 (by decide)), (k.cell _).trans (hc 1 (by decide)), (k.cell _).trans (hc 2 (by decide)), (k.cell _).trans (hc 3 (by decide)), (k.cell _).trans (hc 4 (by decide)), (k.cell _).trans (hc 5 (by decide)), (k.cell _).trans (hc 6 (by decide)), (k.cell _).trans (hc 7 (by decide)), (k.cell _).trans (hc 8 (by decide)), (k.cell _).trans (hc 9 (by decide)), (k.cell _).trans (hc 10 (by decide)), (k.cell _).trans (hc 11 (by decide))⟩⟩
def hasV (s i : Int) : Bool := decide (0 ≤ i) && (decide (i < 62) && ((s / 2 ^ i.toNat).tmod 2 != 0))
set_option maxHeartbeats 1000000 in
theorem has_q (s i : Int) (w : World) : Calls Tryd.prog 54 #[.int .i64 s, .int .i64 i] w (fun e w' => e = .returned (.bool (hasV s i)) ∧ w = w') := by
  obtain ⟨x, hx⟩ : ∃ x, x = hasV s i := ⟨_, rfl⟩
  rw [← hx]
  unfold hasV at hx
  by_cases h1 : 0 ≤ i
  · by_cases h2 : i < 62
    · have b1 : decide (0 ≤ i) = true := decide_eq_true h1
      have b2 : decide (i < 62) = true := decide_eq_true h2
      rw [b1, b2, Bool.true_and, Bool.true_and] at hx
      obtain ⟨k, rfl⟩ : ∃ k : Nat, i = (k : Int) := ⟨i.toNat, by omega⟩
      subst hx
      go_enter Tryd.func54, Tryd.ntmps54
      go_wp2_with fail
      go_ret
      exact ⟨rfl, rfl⟩
    · have b1 : decide (0 ≤ i) = true := decide_eq_true h1
      have b2 : decide (i < 62) = false := decide_eq_false h2
      rw [b1, b2, Bool.true_and, Bool.false_and] at hx
      subst hx
      go_enter Tryd.func54, Tryd.ntmps54
      go_wp2_with fail
      go_ret
      exact ⟨rfl, rfl⟩
  · have b1 : decide (0 ≤ i) = false := decide_eq_false h1
    rw [b1, Bool.false_and] at hx
    subst hx
    go_enter Tryd.func54, Tryd.ntmps54
    go_wp2_with fail
    go_ret
    exact ⟨rfl, rfl⟩
set_option maxHeartbeats 1000000 in
theorem proven_q (s : St) (v : Int) (w : World) : Calls Tryd.prog 86 #[.agg s.arr, .int .i64 v] w (fun e w' => e = .returned (.bool (hasV s.pr v)) ∧ Fr No w w') := by
  obtain ⟨x, hx⟩ : ∃ x, x = hasV s.pr v := ⟨_, rfl⟩
  rw [← hx]
  obtain ⟨tk, cn, Bt, mt, dt, Bs, ms, ds, pr, ev, lo, hi⟩ := s
  simp only at hx
  have HX := Lib.hid hx
  clear hx
  go_enter Tryd.func86, Tryd.ntmps86
  go_wp2_with fail
  refine (has_q _ _ _).mono ?_
  rintro e w2 ⟨rfl, rfl⟩
  rw [← HX.out]
  go_wp2_with fail
  go_ret
  exact ⟨rfl, (by repeat (first | assumption | exact Fr.refl _ _ | refine Fr.alloc ?_ _ | refine Fr.drew ?_ | refine Fr.drewN ?_ _))⟩
theorem st_fill {Z : World} {q : Nat} (s : St) {z : St} (h : Blk Z q TSt z.arr) : Blk (World.setCell (World.setCell (World.setCell (World.setCell (World.setCell (World.setCell (World.setCell (World.setCell Z ⟨q, 0, none⟩ (.int .i64 s.tk)) ⟨q, 1, none⟩ (.int .i64 s.cn)) ⟨q, 2, none⟩ (.slice s.Bt s.mt s.dt)) ⟨q, 3, none⟩ (.slice s.Bs s.ms s.ds)) ⟨q, 4, none⟩ (.int .i64 s.pr)) ⟨q, 5, none⟩ (.int .i64 s.ev)) ⟨q, 6, none⟩ (.int .i64 s.lo)) ⟨q, 7, none⟩ (.int .i64 s.hi)) q TSt s.arr := by
  refine Blk.cv (Blk.set_ (Blk.set_ (Blk.set_ (Blk.set_ (Blk.set_ (Blk.set_ (Blk.set_ (Blk.set_ h 0 (.int .i64 s.tk)) 1 (.int .i64 s.cn)) 2 (.slice s.Bt s.mt s.dt)) 3 (.slice s.Bs s.ms s.ds)) 4 (.int .i64 s.pr)) 5 (.int .i64 s.ev)) 6 (.int .i64 s.lo)) 7 (.int .i64 s.hi)) ?_
  simp only [St.arr, List.setIfInBounds_toArray, List.set_cons_zero, List.set_cons_succ]
theorem st_fill_fr {w Z : World} {q : Nat} {F : Nat → Prop} (s : St) (h : Fr F w Z) (hq : w.heap.size ≤ q) : Fr F w (World.setCell (World.setCell (World.setCell (World.setCell (World.setCell (World.setCell (World.setCell (World.setCell Z ⟨q, 0, none⟩ (.int .i64 s.tk)) ⟨q, 1, none⟩ (.int .i64 s.cn)) ⟨q, 2, none⟩ (.slice s.Bt s.mt s.dt)) ⟨q, 3, none⟩ (.slice s.Bs s.ms s.ds)) ⟨q, 4, none⟩ (.int .i64 s.pr)) ⟨q, 5, none⟩ (.int .i64 s.ev)) ⟨q, 6, none⟩ (.int .i64 s.lo)) ⟨q, 7, none⟩ (.int .i64 s.hi)) := (Fr.setCell (Fr.setCell (Fr.setCell (Fr.setCell (Fr.setCell (Fr.setCell (Fr.setCell (Fr.setCell h (p := ⟨q, 0, none⟩) (.inr hq) _) (p := ⟨q, 1, none⟩) (.inr hq) _) (p := ⟨q, 2, none⟩) (.inr hq) _) (p := ⟨q, 3, none⟩) (.inr hq) _) (p := ⟨q, 4, none⟩) (.inr hq) _) (p := ⟨q, 5, none⟩) (.inr hq) _) (p := ⟨q, 6, none⟩) (.inr hq) _) (p := ⟨q, 7, none⟩) (.inr hq) _)
theorem st_cells {w : World} {g : Nat} {s : St} (hb : Blk w g TSt s.arr) : w.cell? ⟨g, 0, none⟩ = some (.int .i64 s.tk) ∧ w.cell? ⟨g, 1, none⟩ = some (.int .i64 s.cn) ∧ w.cell? ⟨g, 2, none⟩ = some (.slice s.Bt s.mt s.dt) ∧ w.cell? ⟨g, 3, none⟩ = some (.slice s.Bs s.ms s.ds) ∧ w.cell? ⟨g, 4, none⟩ = some (.int .i64 s.pr) ∧ w.cell? ⟨g, 5, none⟩ = some (.int .i64 s.ev) ∧ w.cell? ⟨g, 6, none⟩ = some (.int .i64 s.lo) ∧ w.cell? ⟨g, 7, none⟩ = some (.int .i64 s.hi) := ⟨hb.cell 0, hb.cell 1, hb.cell 2, hb.cell 3, hb.cell 4, hb.cell 5, hb.cell 6, hb.cell 7⟩
theorem no_results (s : St) (k : Int) (g : Nat) (ts : Array Value) (W : World) (hb : Blk W g TSt s.arr) (h2 : ts[2]?.getD undef = .pointer (some ⟨g, 0, none⟩)) (h3 : ts[3]?.getD undef = .int .i64 k) :
    (results Tryd.f64 ts).run Tryd.prog W = .ok (.tuple #[.agg s.arr, .int .i64 k]) W := by
  obtain ⟨c0, c1, c2, c3, c4, c5, c6, c7⟩ := st_cells hb
  clear hb
  simp [results, Tryd.results64, go_sem, h2, h3, c0, c1, c2, c3, c4, c5, c6, c7]
theorem fit_results (s : St) (k : Int) (g : Nat) (ts : Array Value) (W : World) (hb : Blk W g TSt s.arr) (h2 : ts[4]?.getD undef = .pointer (some ⟨g, 0, none⟩)) (h3 : ts[5]?.getD undef = .int .i64 k) :
    (results Tryd.f82 ts).run Tryd.prog W = .ok (.tuple #[.agg s.arr, .int .i64 k]) W := by
  obtain ⟨c0, c1, c2, c3, c4, c5, c6, c7⟩ := st_cells hb
  clear hb
  simp [results, Tryd.results82, go_sem, h2, h3, c0, c1, c2, c3, c4, c5, c6, c7]
theorem place_results (s : St) (k : Int) (g : Nat) (ts : Array Value) (W : World) (hb : Blk W g TSt s.arr) (h2 : ts[6]?.getD undef = .pointer (some ⟨g, 0, none⟩)) (h3 : ts[7]?.getD undef = .int .i64 k) :
    (results Tryd.f66 ts).run Tryd.prog W = .ok (.tuple #[.agg s.arr, .int .i64 k]) W := by
  obtain ⟨c0, c1, c2, c3, c4, c5, c6, c7⟩ := st_cells hb
  clear hb
  simp [results, Tryd.results66, go_sem, h2, h3, c0, c1, c2, c3, c4, c5, c6, c7]
theorem grant_results (s : St) (k : Int) (g : Nat) (ts : Array Value) (W : World) (hb : Blk W g TSt s.arr) (h2 : ts[6]?.getD undef = .pointer (some ⟨g, 0, none⟩)) (h3 : ts[7]?.getD undef = .int .i64 k) :
    (results Tryd.f67 ts).run Tryd.prog W = .ok (.tuple #[.agg s.arr, .int .i64 k]) W := by
  obtain ⟨c0, c1, c2, c3, c4, c5, c6, c7⟩ := st_cells hb
  clear hb
  simp [results, Tryd.results67, go_sem, h2, h3, c0, c1, c2, c3, c4, c5, c6, c7]
theorem cut_results (s : St) (k : Int) (g : Nat) (ts : Array Value) (W : World) (hb : Blk W g TSt s.arr) (h2 : ts[4]?.getD undef = .pointer (some ⟨g, 0, none⟩)) (h3 : ts[5]?.getD undef = .int .i64 k) :
    (results Tryd.f68 ts).run Tryd.prog W = .ok (.tuple #[.agg s.arr, .int .i64 k]) W := by
  obtain ⟨c0, c1, c2, c3, c4, c5, c6, c7⟩ := st_cells hb
  clear hb
  simp [results, Tryd.results68, go_sem, h2, h3, c0, c1, c2, c3, c4, c5, c6, c7]
theorem standby_results (s : St) (k : Int) (g : Nat) (ts : Array Value) (W : World) (hb : Blk W g TSt s.arr) (h2 : ts[6]?.getD undef = .pointer (some ⟨g, 0, none⟩)) (h3 : ts[7]?.getD undef = .int .i64 k) :
    (results Tryd.f69 ts).run Tryd.prog W = .ok (.tuple #[.agg s.arr, .int .i64 k]) W := by
  obtain ⟨c0, c1, c2, c3, c4, c5, c6, c7⟩ := st_cells hb
  clear hb
  simp [results, Tryd.results69, go_sem, h2, h3, c0, c1, c2, c3, c4, c5, c6, c7]
theorem ready_results (s : St) (k : Int) (g : Nat) (ts : Array Value) (W : World) (hb : Blk W g TSt s.arr) (h2 : ts[4]?.getD undef = .pointer (some ⟨g, 0, none⟩)) (h3 : ts[5]?.getD undef = .int .i64 k) :
    (results Tryd.f70 ts).run Tryd.prog W = .ok (.tuple #[.agg s.arr, .int .i64 k]) W := by
  obtain ⟨c0, c1, c2, c3, c4, c5, c6, c7⟩ := st_cells hb
  clear hb
  simp [results, Tryd.results70, go_sem, h2, h3, c0, c1, c2, c3, c4, c5, c6, c7]
theorem migrate_results (s : St) (k : Int) (g : Nat) (ts : Array Value) (W : World) (hb : Blk W g TSt s.arr) (h2 : ts[6]?.getD undef = .pointer (some ⟨g, 0, none⟩)) (h3 : ts[7]?.getD undef = .int .i64 k) :
    (results Tryd.f71 ts).run Tryd.prog W = .ok (.tuple #[.agg s.arr, .int .i64 k]) W := by
  obtain ⟨c0, c1, c2, c3, c4, c5, c6, c7⟩ := st_cells hb
  clear hb
  simp [results, Tryd.results71, go_sem, h2, h3, c0, c1, c2, c3, c4, c5, c6, c7]
theorem abandon_results (s : St) (k : Int) (g : Nat) (ts : Array Value) (W : World) (hb : Blk W g TSt s.arr) (h2 : ts[4]?.getD undef = .pointer (some ⟨g, 0, none⟩)) (h3 : ts[5]?.getD undef = .int .i64 k) :
    (results Tryd.f72 ts).run Tryd.prog W = .ok (.tuple #[.agg s.arr, .int .i64 k]) W := by
  obtain ⟨c0, c1, c2, c3, c4, c5, c6, c7⟩ := st_cells hb
  clear hb
  simp [results, Tryd.results72, go_sem, h2, h3, c0, c1, c2, c3, c4, c5, c6, c7]
theorem shed_results (s : St) (k : Int) (g : Nat) (ts : Array Value) (W : World) (hb : Blk W g TSt s.arr) (h2 : ts[6]?.getD undef = .pointer (some ⟨g, 0, none⟩)) (h3 : ts[7]?.getD undef = .int .i64 k) :
    (results Tryd.f73 ts).run Tryd.prog W = .ok (.tuple #[.agg s.arr, .int .i64 k]) W := by
  obtain ⟨c0, c1, c2, c3, c4, c5, c6, c7⟩ := st_cells hb
  clear hb
  simp [results, Tryd.results73, go_sem, h2, h3, c0, c1, c2, c3, c4, c5, c6, c7]
theorem want_results (s : St) (k : Int) (g : Nat) (ts : Array Value) (W : World) (hb : Blk W g TSt s.arr) (h2 : ts[6]?.getD undef = .pointer (some ⟨g, 0, none⟩)) (h3 : ts[7]?.getD undef = .int .i64 k) :
    (results Tryd.f74 ts).run Tryd.prog W = .ok (.tuple #[.agg s.arr, .int .i64 k]) W := by
  obtain ⟨c0, c1, c2, c3, c4, c5, c6, c7⟩ := st_cells hb
  clear hb
  simp [results, Tryd.results74, go_sem, h2, h3, c0, c1, c2, c3, c4, c5, c6, c7]
theorem runs_results (s : St) (k : Int) (g : Nat) (ts : Array Value) (W : World) (hb : Blk W g TSt s.arr) (h2 : ts[4]?.getD undef = .pointer (some ⟨g, 0, none⟩)) (h3 : ts[5]?.getD undef = .int .i64 k) :
    (results Tryd.f75 ts).run Tryd.prog W = .ok (.tuple #[.agg s.arr, .int .i64 k]) W := by
  obtain ⟨c0, c1, c2, c3, c4, c5, c6, c7⟩ := st_cells hb
  clear hb
  simp [results, Tryd.results75, go_sem, h2, h3, c0, c1, c2, c3, c4, c5, c6, c7]
theorem prove_results (s : St) (k : Int) (g : Nat) (ts : Array Value) (W : World) (hb : Blk W g TSt s.arr) (h2 : ts[6]?.getD undef = .pointer (some ⟨g, 0, none⟩)) (h3 : ts[7]?.getD undef = .int .i64 k) :
    (results Tryd.f76 ts).run Tryd.prog W = .ok (.tuple #[.agg s.arr, .int .i64 k]) W := by
  obtain ⟨c0, c1, c2, c3, c4, c5, c6, c7⟩ := st_cells hb
  clear hb
  simp [results, Tryd.results76, go_sem, h2, h3, c0, c1, c2, c3, c4, c5, c6, c7]
theorem expand_results (s : St) (k : Int) (g : Nat) (ts : Array Value) (W : World) (hb : Blk W g TSt s.arr) (h2 : ts[4]?.getD undef = .pointer (some ⟨g, 0, none⟩)) (h3 : ts[5]?.getD undef = .int .i64 k) :
    (results Tryd.f77 ts).run Tryd.prog W = .ok (.tuple #[.agg s.arr, .int .i64 k]) W := by
  obtain ⟨c0, c1, c2, c3, c4, c5, c6, c7⟩ := st_cells hb
  clear hb
  simp [results, Tryd.results77, go_sem, h2, h3, c0, c1, c2, c3, c4, c5, c6, c7]
theorem apply_results (s : St) (k : Int) (g : Nat) (ts : Array Value) (W : World) (hb : Blk W g TSt s.arr) (h2 : ts[6]?.getD undef = .pointer (some ⟨g, 0, none⟩)) (h3 : ts[7]?.getD undef = .int .i64 k) :
    (results Tryd.f58 ts).run Tryd.prog W = .ok (.tuple #[.agg s.arr, .int .i64 k]) W := by
  obtain ⟨c0, c1, c2, c3, c4, c5, c6, c7⟩ := st_cells hb
  clear hb
  simp [results, Tryd.results58, go_sem, h2, h3, c0, c1, c2, c3, c4, c5, c6, c7]
set_option maxHeartbeats 1000000 in
theorem no_any (k : Int) (w : World) : Calls Tryd.prog 64 #[.int .i64 k] w (fun e w' => e = .returned (.tuple #[.agg stZero.arr, .int .i64 k]) ∧ Fr No w w') := by
  go_enter Tryd.func64, Tryd.ntmps64
  go_wp2_with fail
  exact bodyPost_ret (v := .tuple #[.agg stZero.arr, .int .i64 k]) (no_results stZero k w.heap.size _ _ (Blk.new w TSt stZero.arr) rfl rfl) rfl ⟨rfl, fr_alloc _ _⟩
end Go.Proofs.YtanhbebikcoliaaDoor
/- States of the control log: what is read of them. -/
namespace Go.Proofs.YtanhbebikcoliaaDoor
open Go.ChangeShapes Go.WideShapes Go.ChangeAt Go.RowKit
set_option linter.unusedVariables false
/-- A window after a cut: some window of the same cell. -/
def WinTo (w : World) (x e v : Int) (E : Ending) (w' : World) : Prop := ∃ f u : Int, E = .returned (.agg #[.int .i64 x, .int .i64 e, .int .i64 v, .int .i64 f, .int .i64 u]) ∧ okI u ∧ Fr No w w'
theorem Blk.newAt (w : World) (g : Nat) (t : TypeId) (cs : Array Value) (h : w.heap.size = g) : Blk (w.alloc (.cells cs t)) g t cs := h ▸ Blk.new w t cs
abbrev TWn : TypeId := 81
theorem cutw_results (a b c d e : Int) (g : Nat) (ts : Array Value) (W : World) (hb : Blk W g TWn #[.int .i64 a, .int .i64 b, .int .i64 c, .int .i64 d, .int .i64 e]) (h2 : ts[4]?.getD undef = .pointer (some ⟨g, 0, none⟩)) :
    (results Tryd.f84 ts).run Tryd.prog W = .ok (.agg #[.int .i64 a, .int .i64 b, .int .i64 c, .int .i64 d, .int .i64 e]) W := by
  have c0 := hb.cell 0
  have c1 := hb.cell 1
  have c2 := hb.cell 2
  have c3 := hb.cell 3
  have c4 := hb.cell 4
  clear hb
  simp at c0 c1 c2 c3 c4
  simp [results, Tryd.results84, go_sem, h2, c0, c1, c2, c3, c4]
set_option maxHeartbeats 2000000 in
theorem cutw_any (x e v f u tk : Int) (w : World) (hu : okI u) : Calls Tryd.prog 84 #[.agg #[.int .i64 x, .int .i64 e, .int .i64 v, .int .i64 f, .int .i64 u], .int .i64 tk] w (WinTo w x e v) := by
  have HU := Lib.hid hu
  clear hu
  go_enter Tryd.func84, Tryd.ntmps84
  go_wp2_with fail
  all_goals exact bodyPost_ret (cutw_results _ _ _ _ _ (w.heap.size + 1) _ _ (Blk.newAt _ _ _ _ (by simp)) rfl) rfl ⟨_, _, rfl, by first | exact HU.out | exact ok64 _ | (have := HU.out; simp only [okI] at *; omega), (by repeat (first | assumption | exact Fr.refl _ _ | refine Fr.alloc ?_ _ | refine Fr.drew ?_ | refine Fr.drewN ?_ _))⟩
set_option maxRecDepth 100000 in
set_option maxHeartbeats 4000000 in
theorem open_any {w : World} {G : Nat → Prop} {c : Cf} {s : St} (h : StOk w G c s) (i : Nat) (hlt : i < c.nc) : Calls Tryd.prog 85 #[.agg s.arr, .int .i64 (i : Int)] w (AnyB w) := by
  obtain ⟨b, m, r, a, e, h1, hG, hb, hr, ha, hcell⟩ := h.cell hlt
  have hms := h.ms
  have hmt := h.mt
  have hP := fun v W => proven_q s v W
  obtain ⟨rg, nz, nc, nt, nv, le, bk, bz, bc, bv, cz, cc, ct, cv, At, Ar, nr, cr, Ao, no_, co, bl⟩ := c
  obtain ⟨tk, cn, Bt, mt, dt, Bs, ms, ds, pr, ev, lo, hi⟩ := s
  simp only at *
  subst hms hmt
  subst h1
  have hix : (0 : Int) ≤ (i : Int) ∧ (i : Int) < (ms : Int) := by omega
  obtain ⟨w1, hw1⟩ : ∃ w1, w1 = w.alloc (.cells #[.int .i64 tk, .int .i64 cn, .slice Bt mt dt, .slice (some ⟨b, 0, none⟩) ms ds, .int .i64 pr, .int .i64 ev, .int .i64 lo, .int .i64 hi] TSt) := ⟨_, rfl⟩
  obtain ⟨g1, hg1⟩ : ∃ g1, g1 = w.heap.size := ⟨_, rfl⟩
  have hb1 : Blk w1 g1 TSt #[.int .i64 tk, .int .i64 cn, .slice Bt mt dt, .slice (some ⟨b, 0, none⟩) ms ds, .int .i64 pr, .int .i64 ev, .int .i64 lo, .int .i64 hi] := by rw [hw1, hg1]; exact Blk.new _ _ _
  have f1 : Fr No w w1 := by rw [hw1]; exact fr_alloc _ _
  have hs1 : w1.heap.size = g1 + 1 := by rw [hw1, hg1]; simp
  have hB1 : Blk w1 g1 TSt #[.int .i64 tk, .int .i64 cn, .slice Bt mt dt, .slice (some ⟨b, 0, none⟩) ms ds, .int .i64 pr, .int .i64 ev, .int .i64 lo, .int .i64 hi] := hb1.fr (Fr.refl No _) (fun h => h)
  have fW : Fr No w w1 := (Fr.refl No w).transNo f1
  have hka : ∀ V, Fr No w1 V → (V.cell? ⟨g1, 0, none⟩ = some (.int .i64 tk) ∧ V.cell? ⟨g1, 1, none⟩ = some (.int .i64 cn) ∧ V.cell? ⟨g1, 2, none⟩ = some (.slice Bt mt dt) ∧ V.cell? ⟨g1, 3, none⟩ = some (.slice (some ⟨b, 0, none⟩) ms ds) ∧ V.cell? ⟨g1, 4, none⟩ = some (.int .i64 pr) ∧ V.cell? ⟨g1, 5, none⟩ = some (.int .i64 ev) ∧ V.cell? ⟨g1, 6, none⟩ = some (.int .i64 lo) ∧ V.cell? ⟨g1, 7, none⟩ = some (.int .i64 hi)) := fun V hf => (let k := hB1.fr hf (fun h => h); ⟨k.cell 0, k.cell 1, k.cell 2, k.cell 3, k.cell 4, k.cell 5, k.cell 6, k.cell 7⟩)
  have hW : w1 = w.alloc (.cells #[.int .i64 tk, .int .i64 cn, .slice Bt mt dt, .slice (some ⟨b, 0, none⟩) ms ds, .int .i64 pr, .int .i64 ev, .int .i64 lo, .int .i64 hi] TSt) := by rw [hw1]
  have hl1 : g1 < w1.heap.size := hB1.lt
  clear hw1 hb1 hs1
  have HG1 := Lib.hid hg1
  clear hg1
  have hcl := fun V (hV : Fr No w1 V) => hcell V (fW.transNo hV)
  generalize hq : hasV pr (r : Int) = q at *
  generalize hq2 : hasV pr (a : Int) = q2 at *
  clear hcell h
  have HP := Lib.hid hP
  have HKA := Lib.hid hka
  have HW := Lib.hid hW
  have HCL := Lib.hid hcl
  have HQ := Lib.hid hq
  have HQ2 := Lib.hid hq2
  clear hP hka hW hcl hq hq2
  rcases q with _ | _
  · go_enter Tryd.func85, Tryd.ntmps85
    go_upto_region 1 with fail
    rw [← HW.out]
    try rw [← HG1.out]
    obtain ⟨e0, e1, e2, e3, e4, e5, e6, e7⟩ := HKA.out w1 (Fr.refl _ _)
    obtain ⟨d0, d1, d2, d3⟩ := HCL.out w1 (Fr.refl _ _)
    refine wp_region_held_drew (S := (fun V => Fr No w1 V ∧ (V.cell? ⟨g1, 0, none⟩ = some (.int .i64 tk) ∧ V.cell? ⟨g1, 1, none⟩ = some (.int .i64 cn) ∧ V.cell? ⟨g1, 2, none⟩ = some (.slice Bt mt dt) ∧ V.cell? ⟨g1, 3, none⟩ = some (.slice (some ⟨b, 0, none⟩) ms ds) ∧ V.cell? ⟨g1, 4, none⟩ = some (.int .i64 pr) ∧ V.cell? ⟨g1, 5, none⟩ = some (.int .i64 ev) ∧ V.cell? ⟨g1, 6, none⟩ = some (.int .i64 lo) ∧ V.cell? ⟨g1, 7, none⟩ = some (.int .i64 hi)) ∧ V.cell? ⟨b, i * 4 + 1, none⟩ = some (.int .i64 (r : Int)) ∧ V.cell? ⟨b, i * 4 + 2, none⟩ = some (.int .i64 (a : Int)))) (by kernel_rfl) (⟨(by repeat (first | assumption | exact Fr.refl _ _ | refine Fr.alloc ?_ _ | refine Fr.drew ?_ | refine Fr.drewN ?_ _)), HKA.out _ (by repeat (first | assumption | exact Fr.refl _ _ | refine Fr.alloc ?_ _ | refine Fr.drew ?_ | refine Fr.drewN ?_ _)), (HCL.out _ (by repeat (first | assumption | exact Fr.refl _ _ | refine Fr.alloc ?_ _ | refine Fr.drew ?_ | refine Fr.drewN ?_ _))).2.1, (HCL.out _ (by repeat (first | assumption | exact Fr.refl _ _ | refine Fr.alloc ?_ _ | refine Fr.drew ?_ | refine Fr.drewN ?_ _))).2.2.1⟩) (fun hHeld => ?_)
    refine wpAnyH_take (i := 0) (v := ?_) rfl (by kernel_rfl) (by kernel_rfl) (by kernel_rfl) (fun _ _ _ h => h) (Or.inl ⟨by rfl, ?_⟩) (by assumption) ?_
    rotate_left
    · (intro w hSw; (try dsimp only at hSw); go_simp) <;> with_reducible rfl
    simp only [Act.put, List.setIfInBounds_toArray, List.set_cons_zero, List.set_cons_succ, List.getElem_toArray, List.getElem_cons_zero]
    refine wpAnyH_take (i := 1) (v := ?_) rfl (by kernel_rfl) (by kernel_rfl) (by kernel_rfl) (fun _ _ _ h => h) (Or.inl ⟨by rfl, ?_⟩) (by assumption) ?_
    rotate_left
    · (intro w hSw; (try dsimp only at hSw); go_simp) <;> with_reducible rfl
    simp only [Act.put, List.setIfInBounds_toArray, List.set_cons_zero, List.set_cons_succ, List.getElem_toArray, List.getElem_cons_zero, List.getElem_cons_succ]
    refine wpAnyH_take (i := 2) (v := ?_) rfl (by kernel_rfl) (by kernel_rfl) (by kernel_rfl) (fun _ _ _ h => h) (Or.inl ⟨by rfl, ?_⟩) (by assumption) ?_
    rotate_left
    · (intro w hSw; (try dsimp only at hSw); go_simp) <;> with_reducible rfl
    simp only [Act.put, List.setIfInBounds_toArray, List.set_cons_zero, List.set_cons_succ, List.getElem_toArray, List.getElem_cons_zero, List.getElem_cons_succ]
    refine wpAnyH_take (i := 3) (v := ?_) rfl (by kernel_rfl) (by kernel_rfl) (by kernel_rfl) (fun _ _ _ h => h) (Or.inl ⟨by rfl, ?_⟩) (by assumption) ?_
    rotate_left
    · (intro w hSw; (try dsimp only at hSw); go_simp) <;> with_reducible rfl
    simp only [Act.put, List.setIfInBounds_toArray, List.set_cons_zero, List.set_cons_succ, List.getElem_toArray, List.getElem_cons_zero, List.getElem_cons_succ]
    refine wpAnyH_take (i := 4) (v := ?_) rfl (by kernel_rfl) (by kernel_rfl) (by kernel_rfl) (fun _ _ _ h => h) (Or.inl ⟨by rfl, ?_⟩) (by assumption) ?_
    rotate_left
    · (intro w hSw; (try dsimp only at hSw); go_simp) <;> with_reducible rfl
    simp only [Act.put, List.setIfInBounds_toArray, List.set_cons_zero, List.set_cons_succ, List.getElem_toArray, List.getElem_cons_zero, List.getElem_cons_succ]
    refine wpAnyH_take (i := 5) (v := ?_) rfl (by kernel_rfl) (by kernel_rfl) (by kernel_rfl) (fun _ _ _ h => h) (Or.inl ⟨by rfl, ?_⟩) (by assumption) ?_
    rotate_left
    · (intro w hSw; (try dsimp only at hSw); go_simp) <;> with_reducible rfl
    simp only [Act.put, List.setIfInBounds_toArray, List.set_cons_zero, List.set_cons_succ, List.getElem_toArray, List.getElem_cons_zero, List.getElem_cons_succ]
    refine wpAnyH_take (i := 6) (v := ?_) rfl (by kernel_rfl) (by kernel_rfl) (by kernel_rfl) (fun _ _ _ h => h) (Or.inl ⟨by rfl, ?_⟩) (by assumption) ?_
    rotate_left
    · (intro w hSw; (try dsimp only at hSw); go_simp) <;> with_reducible rfl
    simp only [Act.put, List.setIfInBounds_toArray, List.set_cons_zero, List.set_cons_succ, List.getElem_toArray, List.getElem_cons_zero, List.getElem_cons_succ]
    refine wpAnyH_ready (rs := [7]) (by kernel_rfl) (by simp) (AllReadyH.cons rfl (fun K hK => ?_) AllReadyH.nil)
    go_simp
    refine (HP.out _ _).mono ?_
    rintro e w5 ⟨rfl, f5⟩
    have Q5 : Fr No w1 w5 := Fr.transNo (by repeat (first | assumption | exact Fr.refl _ _ | refine Fr.alloc ?_ _ | refine Fr.drew ?_ | refine Fr.drewN ?_ _)) f5
    clear f5
    rw [HQ.out]
    go_wp2_with fail
    clear hHeld
    refine hK.out _ _ (⟨(by repeat (first | assumption | exact Fr.refl _ _ | refine Fr.alloc ?_ _ | refine Fr.drew ?_ | refine Fr.drewN ?_ _)), HKA.out _ (by repeat (first | assumption | exact Fr.refl _ _ | refine Fr.alloc ?_ _ | refine Fr.drew ?_ | refine Fr.drewN ?_ _)), (HCL.out _ (by repeat (first | assumption | exact Fr.refl _ _ | refine Fr.alloc ?_ _ | refine Fr.drew ?_ | refine Fr.drewN ?_ _))).2.1, (HCL.out _ (by repeat (first | assumption | exact Fr.refl _ _ | refine Fr.alloc ?_ _ | refine Fr.drew ?_ | refine Fr.drewN ?_ _))).2.2.1⟩) (fun hHeld => ?_)
    clear hK K
    try simp only [Act.put, List.setIfInBounds_toArray, List.set_cons_zero, List.set_cons_succ, List.getElem_toArray, List.getElem_cons_zero, List.getElem_cons_succ]
    refine wpAnyH_take (i := 8) (v := ?_) rfl (by kernel_rfl) (by kernel_rfl) (by kernel_rfl) (fun _ _ _ h => h) (Or.inl ⟨by rfl, ?_⟩) (by assumption) ?_
    rotate_left
    · (intro w hSw; (try dsimp only at hSw); go_simp) <;> with_reducible rfl
    simp only [Act.put, List.setIfInBounds_toArray, List.set_cons_zero, List.set_cons_succ, List.getElem_toArray, List.getElem_cons_zero, List.getElem_cons_succ]
    refine wpAnyH_take (i := 9) (v := ?_) rfl (by kernel_rfl) (by kernel_rfl) (by kernel_rfl) (fun _ _ _ h => h) (Or.inl ⟨by rfl, ?_⟩) (by assumption) ?_
    rotate_left
    · (intro w hSw; (try dsimp only at hSw); go_simp) <;> with_reducible rfl
    simp only [Act.put, List.setIfInBounds_toArray, List.set_cons_zero, List.set_cons_succ, List.getElem_toArray, List.getElem_cons_zero, List.getElem_cons_succ]
    refine wpAnyH_take (i := 10) (v := undef) rfl (by kernel_rfl) (by kernel_rfl) (by kernel_rfl) (fun _ _ _ h => h) (Or.inr ⟨by rfl, rfl⟩) (by assumption) ?_
    simp only [Act.put, List.setIfInBounds_toArray, List.set_cons_zero, List.set_cons_succ, List.getElem_toArray, List.getElem_cons_zero, List.getElem_cons_succ]
    refine wpAnyH_take (i := 11) (v := undef) rfl (by kernel_rfl) (by kernel_rfl) (by kernel_rfl) (fun _ _ _ h => h) (Or.inr ⟨by rfl, rfl⟩) (by assumption) ?_
    simp only [Act.put, List.setIfInBounds_toArray, List.set_cons_zero, List.set_cons_succ, List.getElem_toArray, List.getElem_cons_zero, List.getElem_cons_succ]
    refine wpAnyH_take (i := 12) (v := undef) rfl (by kernel_rfl) (by kernel_rfl) (by kernel_rfl) (fun _ _ _ h => h) (Or.inr ⟨by rfl, rfl⟩) (by assumption) ?_
    simp only [Act.put, List.setIfInBounds_toArray, List.set_cons_zero, List.set_cons_succ, List.getElem_toArray, List.getElem_cons_zero, List.getElem_cons_succ]
    refine wpAnyH_take (i := 13) (v := undef) rfl (by kernel_rfl) (by kernel_rfl) (by kernel_rfl) (fun _ _ _ h => h) (Or.inr ⟨by rfl, rfl⟩) (by assumption) ?_
    simp only [Act.put, List.setIfInBounds_toArray, List.set_cons_zero, List.set_cons_succ, List.getElem_toArray, List.getElem_cons_zero, List.getElem_cons_succ]
    refine wpAnyH_take (i := 14) (v := undef) rfl (by kernel_rfl) (by kernel_rfl) (by kernel_rfl) (fun _ _ _ h => h) (Or.inr ⟨by rfl, rfl⟩) (by assumption) ?_
    simp only [Act.put, List.setIfInBounds_toArray, List.set_cons_zero, List.set_cons_succ, List.getElem_toArray, List.getElem_cons_zero, List.getElem_cons_succ]
    refine wpAnyH_take (i := 15) (v := undef) rfl (by kernel_rfl) (by kernel_rfl) (by kernel_rfl) (fun _ _ _ h => h) (Or.inr ⟨by rfl, rfl⟩) (by assumption) ?_
    simp only [Act.put, List.setIfInBounds_toArray, List.set_cons_zero, List.set_cons_succ, List.getElem_toArray, List.getElem_cons_zero, List.getElem_cons_succ]
    refine wpAnyH_take (i := 16) (v := undef) rfl (by kernel_rfl) (by kernel_rfl) (by kernel_rfl) (fun _ _ _ h => h) (Or.inr ⟨by rfl, rfl⟩) (by assumption) ?_
    simp only [Act.put, List.setIfInBounds_toArray, List.set_cons_zero, List.set_cons_succ, List.getElem_toArray, List.getElem_cons_zero, List.getElem_cons_succ]
    refine wpAnyH_take (i := 17) (v := undef) rfl (by kernel_rfl) (by kernel_rfl) (by kernel_rfl) (fun _ _ _ h => h) (Or.inr ⟨by rfl, rfl⟩) (by assumption) ?_
    simp only [Act.put, List.setIfInBounds_toArray, List.set_cons_zero, List.set_cons_succ, List.getElem_toArray, List.getElem_cons_zero, List.getElem_cons_succ]
    refine wpAnyH_take (i := 18) (v := undef) rfl (by kernel_rfl) (by kernel_rfl) (by kernel_rfl) (fun _ _ _ h => h) (Or.inr ⟨by rfl, rfl⟩) (by assumption) ?_
    simp only [Act.put, List.setIfInBounds_toArray, List.set_cons_zero, List.set_cons_succ, List.getElem_toArray, List.getElem_cons_zero, List.getElem_cons_succ]
    refine wpAnyH_take (i := 19) (v := ?_) rfl (by kernel_rfl) (by kernel_rfl) (by kernel_rfl) (fun _ _ _ h => h) (Or.inl ⟨by rfl, ?_⟩) (by assumption) ?_
    rotate_left
    · (intro w hSw; (try dsimp only at hSw); go_simp) <;> with_reducible rfl
    simp only [Act.put, List.setIfInBounds_toArray, List.set_cons_zero, List.set_cons_succ, List.getElem_toArray, List.getElem_cons_zero, List.getElem_cons_succ]
    refine wpAnyH_take (i := 20) (v := ?_) rfl (by kernel_rfl) (by kernel_rfl) (by kernel_rfl) (fun _ _ _ h => h) (Or.inl ⟨by rfl, ?_⟩) (by assumption) ?_
    rotate_left
    · (intro w hSw; (try dsimp only at hSw); go_simp) <;> with_reducible rfl
    simp only [Act.put, List.setIfInBounds_toArray, List.set_cons_zero, List.set_cons_succ, List.getElem_toArray, List.getElem_cons_zero, List.getElem_cons_succ]
    refine wpAnyH_done (by kernel_rfl) ?_ _
    all_goals go_wp2_with fail
    all_goals (go_ret; exact AnyB.of (fW.transNo (by repeat (first | assumption | exact Fr.refl _ _ | refine Fr.alloc ?_ _ | refine Fr.drew ?_ | refine Fr.drewN ?_ _))))
  · go_enter Tryd.func85, Tryd.ntmps85
    go_upto_region 1 with fail
    rw [← HW.out]
    try rw [← HG1.out]
    obtain ⟨e0, e1, e2, e3, e4, e5, e6, e7⟩ := HKA.out w1 (Fr.refl _ _)
    obtain ⟨d0, d1, d2, d3⟩ := HCL.out w1 (Fr.refl _ _)
    go_region_held3 (fun V => Fr No w1 V ∧ (V.cell? ⟨g1, 0, none⟩ = some (.int .i64 tk) ∧ V.cell? ⟨g1, 1, none⟩ = some (.int .i64 cn) ∧ V.cell? ⟨g1, 2, none⟩ = some (.slice Bt mt dt) ∧ V.cell? ⟨g1, 3, none⟩ = some (.slice (some ⟨b, 0, none⟩) ms ds) ∧ V.cell? ⟨g1, 4, none⟩ = some (.int .i64 pr) ∧ V.cell? ⟨g1, 5, none⟩ = some (.int .i64 ev) ∧ V.cell? ⟨g1, 6, none⟩ = some (.int .i64 lo) ∧ V.cell? ⟨g1, 7, none⟩ = some (.int .i64 hi)) ∧ V.cell? ⟨b, i * 4 + 1, none⟩ = some (.int .i64 (r : Int)) ∧ V.cell? ⟨b, i * 4 + 2, none⟩ = some (.int .i64 (a : Int))) (exact ⟨(by repeat (first | assumption | exact Fr.refl _ _ | refine Fr.alloc ?_ _ | refine Fr.drew ?_ | refine Fr.drewN ?_ _)), HKA.out _ (by repeat (first | assumption | exact Fr.refl _ _ | refine Fr.alloc ?_ _ | refine Fr.drew ?_ | refine Fr.drewN ?_ _)), (HCL.out _ (by repeat (first | assumption | exact Fr.refl _ _ | refine Fr.alloc ?_ _ | refine Fr.drew ?_ | refine Fr.drewN ?_ _))).2.1, (HCL.out _ (by repeat (first | assumption | exact Fr.refl _ _ | refine Fr.alloc ?_ _ | refine Fr.drew ?_ | refine Fr.drewN ?_ _))).2.2.1⟩) (first
      | (go_at_call 86; refine (HP.out _ _).mono ?_; rintro e w5 ⟨rfl, f5⟩; have Q5 : Fr No w1 w5 := Fr.transNo (by repeat (first | assumption | exact Fr.refl _ _ | refine Fr.alloc ?_ _ | refine Fr.drew ?_ | refine Fr.drewN ?_ _)) f5; clear f5; try rw [HQ.out]))
    all_goals go_wp2_with fail
    all_goals (go_ret; exact AnyB.of (fW.transNo (by repeat (first | assumption | exact Fr.refl _ _ | refine Fr.alloc ?_ _ | refine Fr.drew ?_ | refine Fr.drewN ?_ _))))
end Go.Proofs.YtanhbebikcoliaaDoor
