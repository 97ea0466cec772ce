/-
  Several texts in one: RepM.
-/
import Derived.Test.YtokblidfekbeeaaZ21
import Derived.Test.YtokblidfekbeeaaZ03
import Derived.Deep.CutBlock
/- The program's replica: which messages are proper, the contract. -/
namespace Go.Proofs.Ytokblidfekbeeaa
open Go.ChangeShapes Go.WideShapes Go.ChangeAt Go.RowKit
set_option linter.unusedVariables false

section
variable {w w' : World} {F G : Nat → Prop} {p : Nat} {r : Rs} {s : Js} {n : Nat}
set_option maxRecDepth 100000 in
set_option maxHeartbeats 8000000 in
theorem p_proper (h : RAt w F p r n) (m : Ms) (A : Option Addr) (c : Nat) (hE : Ent w G (.slice A m.es.length c) m.es) (hlen : m.es.length ≤ 1000000) : Calls Try.prog 54 #[.pointer (some ⟨p, 0, none⟩), m.v (.slice A m.es.length c)] w fun e w' => e = .returned (.bool (r.proper m)) ∧ Fr No w w' := by
  have hP : ∀ W, Fr No w W → W.cell? ⟨p, 1, none⟩ = some (.int .i64 (r.id : Int)) ∧ W.cell? ⟨p, 2, none⟩ = some (.int .i64 (r.n : Int)) := fun W hW => (let ⟨_, _, _, _, _, h1, _⟩ := h.frNo hW; ⟨h1.cell 1, h1.cell 2⟩)
  have hA := fun W (hf : Fr No w W) i0 i1 i2 => p_properA m A c (hE.frNo hf) i0 i1 i2 hlen
  have hY : r.proper m = (decide (m.to_ = r.id ∧ m.from_ ≠ r.id ∧ 0 ≤ m.from_ ∧ m.from_ < r.n ∧ 1 ≤ m.term ∧ m.term ≤ 1073741824 ∧ 0 ≤ m.index ∧ m.index ≤ 4096 ∧ 0 ≤ m.prev ∧ m.prev ≤ m.term ∧ 0 ≤ m.commit ∧ m.commit ≤ 4096) && (decide (m.kind = 1 ∨ m.kind = 2 ∨ m.kind = 4) || (decide (m.kind = 3) && properA m))) := rfl
  generalize r.proper m = Y at *
  generalize properA m = PA at *
  obtain ⟨kd, mf, mto, mt, ix, pv, cm, ok, es⟩ := m
  simp only at *
  generalize (r.id : Int) = id at *
  generalize (r.n : Int) = nn at *
  obtain ⟨W0, hW0⟩ : ∃ W0, W0 = w.alloc (.cells #[.int .i64 kd, .int .i64 mf, .int .i64 mto, .int .i64 mt, .int .i64 ix, .int .i64 pv, .int .i64 cm, .bool ok, .slice A es.length c] TMs) := ⟨_, rfl⟩
  have hf0 : Fr No w W0 := by rw [hW0]; exact fr_alloc _ _
  obtain ⟨g, hg⟩ : ∃ g, g = w.heap.size := ⟨_, rfl⟩
  have hb : Blk W0 g TMs #[.int .i64 kd, .int .i64 mf, .int .i64 mto, .int .i64 mt, .int .i64 ix, .int .i64 pv, .int .i64 cm, .bool ok, .slice A es.length c] := by rw [hW0, hg]; exact Blk.new _ _ _
  obtain ⟨p1, p2⟩ := hP _ hf0
  obtain ⟨c0, c1, c2, c3, c4, c5, c6, c7, c8⟩ := ms_cells (m := ⟨kd, mf, mto, mt, ix, pv, cm, ok, es⟩) hb
  simp only at *
  obtain ⟨D, hd⟩ : ∃ D, D = decide (mto = id ∧ mf ≠ id ∧ 0 ≤ mf ∧ mf < nn ∧ 1 ≤ mt ∧ mt ≤ 1073741824 ∧ 0 ≤ ix ∧ ix ≤ 4096 ∧ 0 ≤ pv ∧ pv ≤ mt ∧ 0 ≤ cm ∧ cm ≤ 4096) := ⟨_, rfl⟩
  have hDT : D = true → 0 ≤ ix ∧ ix ≤ 4096 ∧ 0 ≤ pv := fun hh => by rw [hd] at hh; simp at hh; omega
  rw [← hd] at hY
  clear h hE hP hb
  have HF0 := Lib.hid hf0
  have HA := Lib.hid hA
  have HW0 := Lib.hid hW0
  have HG := Lib.hid hg
  have HD := Lib.hid hd
  have HDT := Lib.hid hDT
  clear hf0 hA hW0 hg hd hDT
  go_enter Try.func54, Try.ntmps54
  go_wp2_with fail
  rw [← HG.out, ← HW0.out]
  simp only [List.append_eq, List.cons_append, List.nil_append]
  go_upto_region 1 with fail
  go_cut [76] (fun x wx => x = .bool (!D) ∧ wx = W0.drew)
  case first =>
    refine wp_region_held_drew (S := fun V => V.cell? ⟨g, 0, none⟩ = some (.int .i64 kd) ∧ V.cell? ⟨g, 1, none⟩ = some (.int .i64 mf) ∧ V.cell? ⟨g, 2, none⟩ = some (.int .i64 mto) ∧ V.cell? ⟨g, 3, none⟩ = some (.int .i64 mt) ∧ V.cell? ⟨g, 4, none⟩ = some (.int .i64 ix) ∧ V.cell? ⟨g, 5, none⟩ = some (.int .i64 pv) ∧ V.cell? ⟨g, 6, none⟩ = some (.int .i64 cm) ∧ V.cell? ⟨p, 1, none⟩ = some (.int .i64 id) ∧ V.cell? ⟨p, 2, none⟩ = some (.int .i64 nn)) (by kernel_rfl) ⟨c0, c1, c2, c3, c4, c5, c6, p1, p2⟩ (fun hHeld => ?_)
    refine tkY 0 (v := ?_) rfl ?_ ?_
    rotate_left
    · (intro w hSw; (try dsimp only at hSw); go_simp) <;> with_reducible rfl
    simp only [Act.put, za, zb, zc, zd, ze]
    refine tkY 1 (v := ?_) rfl ?_ ?_
    rotate_left
    · (intro w hSw; (try dsimp only at hSw); go_simp) <;> with_reducible rfl
    simp only [Act.put, za, zb, zc, zd, ze, zf]
    refine tkY 2 (v := ?_) rfl ?_ ?_
    rotate_left
    · (intro w hSw; (try dsimp only at hSw); go_simp) <;> with_reducible rfl
    simp only [Act.put, za, zb, zc, zd, ze, zf]
    refine tkY 3 (v := ?_) rfl ?_ ?_
    rotate_left
    · (intro w hSw; (try dsimp only at hSw); go_simp) <;> with_reducible rfl
    simp only [Act.put, za, zb, zc, zd, ze, zf]
    refine tkY 4 (v := ?_) rfl ?_ ?_
    rotate_left
    · (intro w hSw; (try dsimp only at hSw); go_simp) <;> with_reducible rfl
    simp only [Act.put, za, zb, zc, zd, ze, zf]
    refine tkY 5 (v := ?_) rfl ?_ ?_
    rotate_left
    · (intro w hSw; (try dsimp only at hSw); go_simp) <;> with_reducible rfl
    simp only [Act.put, za, zb, zc, zd, ze, zf]
    by_cases q11 : mto ≠ id
    · have t11 : (mto == id) = false := by simpa using q11
      have t11' : (mto != id) = true := by simpa using q11
      refine tkY 6 (v := ?_) rfl ?_ ?_
      rotate_left
      · (intro w hSw; (try dsimp only at hSw); go_simp) <;> with_reducible rfl
      simp only [Act.put, za, zb, zc, zd, ze, zf]
      refine tkY 7 (v := ?_) rfl ?_ ?_
      rotate_left
      · (intro w hSw; (try dsimp only at hSw); go_simp) <;> with_reducible rfl
      simp only [Act.put, za, zb, zc, zd, ze, zf]
      refine tkN 8 rfl ?_
      simp only [Act.put, za, zb, zc, zd, ze, zf]
      refine tkN 9 rfl ?_
      simp only [Act.put, za, zb, zc, zd, ze, zf]
      refine tkN 10 rfl ?_
      simp only [Act.put, za, zb, zc, zd, ze, zf]
      refine tkN 11 rfl ?_
      simp only [Act.put, za, zb, zc, zd, ze, zf]
      refine tkN 12 rfl ?_
      simp only [Act.put, za, zb, zc, zd, ze, zf]
      refine tkN 13 rfl ?_
      simp only [Act.put, za, zb, zc, zd, ze, zf]
      refine tkN 14 rfl ?_
      simp only [Act.put, za, zb, zc, zd, ze, zf]
      refine tkY 15 (v := ?_) rfl ?_ ?_
      rotate_left
      · (intro w hSw; (try dsimp only at hSw); go_simp) <;> with_reducible rfl
      simp only [Act.put, za, zb, zc, zd, ze, zf]
      refine tkY 16 (v := ?_) rfl ?_ ?_
      rotate_left
      · (intro w hSw; (try dsimp only at hSw); go_simp) <;> with_reducible rfl
      simp only [Act.put, za, zb, zc, zd, ze, zf]
      refine tkN 17 rfl ?_
      simp only [Act.put, za, zb, zc, zd, ze, zf]
      refine tkN 18 rfl ?_
      simp only [Act.put, za, zb, zc, zd, ze, zf]
      refine tkN 19 rfl ?_
      simp only [Act.put, za, zb, zc, zd, ze, zf]
      refine tkY 20 (v := ?_) rfl ?_ ?_
      rotate_left
      · (intro w hSw; (try dsimp only at hSw); go_simp) <;> with_reducible rfl
      simp only [Act.put, za, zb, zc, zd, ze, zf]
      refine tkY 21 (v := ?_) rfl ?_ ?_
      rotate_left
      · (intro w hSw; (try dsimp only at hSw); go_simp) <;> with_reducible rfl
      simp only [Act.put, za, zb, zc, zd, ze, zf]
      refine tkN 22 rfl ?_
      simp only [Act.put, za, zb, zc, zd, ze, zf]
      refine tkN 23 rfl ?_
      simp only [Act.put, za, zb, zc, zd, ze, zf]
      refine tkN 24 rfl ?_
      simp only [Act.put, za, zb, zc, zd, ze, zf]
      refine tkN 25 rfl ?_
      simp only [Act.put, za, zb, zc, zd, ze, zf]
      refine tkN 26 rfl ?_
      simp only [Act.put, za, zb, zc, zd, ze, zf]
      refine tkN 27 rfl ?_
      simp only [Act.put, za, zb, zc, zd, ze, zf]
      refine tkN 28 rfl ?_
      simp only [Act.put, za, zb, zc, zd, ze, zf]
      refine tkY 29 (v := ?_) rfl ?_ ?_
      rotate_left
      · (intro w hSw; (try dsimp only at hSw); go_simp) <;> with_reducible rfl
      simp only [Act.put, za, zb, zc, zd, ze, zf]
      refine tkY 30 (v := ?_) rfl ?_ ?_
      rotate_left
      · (intro w hSw; (try dsimp only at hSw); go_simp) <;> with_reducible rfl
      simp only [Act.put, za, zb, zc, zd, ze, zf]
      refine tkN 31 rfl ?_
      simp only [Act.put, za, zb, zc, zd, ze, zf]
      refine tkN 32 rfl ?_
      simp only [Act.put, za, zb, zc, zd, ze, zf]
      refine tkN 33 rfl ?_
      simp only [Act.put, za, zb, zc, zd, ze, zf]
      refine tkY 34 (v := ?_) rfl ?_ ?_
      rotate_left
      · (intro w hSw; (try dsimp only at hSw); go_simp) <;> with_reducible rfl
      simp only [Act.put, za, zb, zc, zd, ze, zf]
      refine tkY 35 (v := ?_) rfl ?_ ?_
      rotate_left
      · (intro w hSw; (try dsimp only at hSw); go_simp) <;> with_reducible rfl
      simp only [Act.put, za, zb, zc, zd, ze, zf]
      refine tkN 36 rfl ?_
      simp only [Act.put, za, zb, zc, zd, ze, zf]
      refine tkN 37 rfl ?_
      simp only [Act.put, za, zb, zc, zd, ze, zf]
      refine tkN 38 rfl ?_
      simp only [Act.put, za, zb, zc, zd, ze, zf]
      refine tkY 39 (v := ?_) rfl ?_ ?_
      rotate_left
      · (intro w hSw; (try dsimp only at hSw); go_simp) <;> with_reducible rfl
      simp only [Act.put, za, zb, zc, zd, ze, zf]
      refine tkY 40 (v := ?_) rfl ?_ ?_
      rotate_left
      · (intro w hSw; (try dsimp only at hSw); go_simp) <;> with_reducible rfl
      simp only [Act.put, za, zb, zc, zd, ze, zf]
      refine tkN 41 rfl ?_
      simp only [Act.put, za, zb, zc, zd, ze, zf]
      refine tkN 42 rfl ?_
      simp only [Act.put, za, zb, zc, zd, ze, zf]
      refine tkN 43 rfl ?_
      simp only [Act.put, za, zb, zc, zd, ze, zf]
      refine tkY 44 (v := ?_) rfl ?_ ?_
      rotate_left
      · (intro w hSw; (try dsimp only at hSw); go_simp) <;> with_reducible rfl
      simp only [Act.put, za, zb, zc, zd, ze, zf]
      refine tkY 45 (v := ?_) rfl ?_ ?_
      rotate_left
      · (intro w hSw; (try dsimp only at hSw); go_simp) <;> with_reducible rfl
      simp only [Act.put, za, zb, zc, zd, ze, zf]
      refine tkN 46 rfl ?_
      simp only [Act.put, za, zb, zc, zd, ze, zf]
      refine tkN 47 rfl ?_
      simp only [Act.put, za, zb, zc, zd, ze, zf]
      refine tkN 48 rfl ?_
      simp only [Act.put, za, zb, zc, zd, ze, zf]
      refine tkY 49 (v := ?_) rfl ?_ ?_
      rotate_left
      · (intro w hSw; (try dsimp only at hSw); go_simp) <;> with_reducible rfl
      simp only [Act.put, za, zb, zc, zd, ze, zf]
      refine tkY 50 (v := ?_) rfl ?_ ?_
      rotate_left
      · (intro w hSw; (try dsimp only at hSw); go_simp) <;> with_reducible rfl
      simp only [Act.put, za, zb, zc, zd, ze, zf]
      refine tkN 51 rfl ?_
      simp only [Act.put, za, zb, zc, zd, ze, zf]
      refine tkN 52 rfl ?_
      simp only [Act.put, za, zb, zc, zd, ze, zf]
      refine tkN 53 rfl ?_
      simp only [Act.put, za, zb, zc, zd, ze, zf]
      refine tkY 54 (v := ?_) rfl ?_ ?_
      rotate_left
      · (intro w hSw; (try dsimp only at hSw); go_simp) <;> with_reducible rfl
      simp only [Act.put, za, zb, zc, zd, ze, zf]
      refine tkY 55 (v := ?_) rfl ?_ ?_
      rotate_left
      · (intro w hSw; (try dsimp only at hSw); go_simp) <;> with_reducible rfl
      simp only [Act.put, za, zb, zc, zd, ze, zf]
      refine tkN 56 rfl ?_
      simp only [Act.put, za, zb, zc, zd, ze, zf]
      refine tkN 57 rfl ?_
      simp only [Act.put, za, zb, zc, zd, ze, zf]
      refine tkN 58 rfl ?_
      simp only [Act.put, za, zb, zc, zd, ze, zf]
      refine tkN 59 rfl ?_
      simp only [Act.put, za, zb, zc, zd, ze, zf]
      refine tkN 60 rfl ?_
      simp only [Act.put, za, zb, zc, zd, ze, zf]
      refine tkY 61 (v := ?_) rfl ?_ ?_
      rotate_left
      · (intro w hSw; (try dsimp only at hSw); go_simp) <;> with_reducible rfl
      simp only [Act.put, za, zb, zc, zd, ze, zf]
      refine tkY 62 (v := ?_) rfl ?_ ?_
      rotate_left
      · (intro w hSw; (try dsimp only at hSw); go_simp) <;> with_reducible rfl
      simp only [Act.put, za, zb, zc, zd, ze, zf]
      refine tkN 63 rfl ?_
      simp only [Act.put, za, zb, zc, zd, ze, zf]
      refine tkN 64 rfl ?_
      simp only [Act.put, za, zb, zc, zd, ze, zf]
      refine tkN 65 rfl ?_
      simp only [Act.put, za, zb, zc, zd, ze, zf]
      refine tkY 66 (v := ?_) rfl ?_ ?_
      rotate_left
      · (intro w hSw; (try dsimp only at hSw); go_simp) <;> with_reducible rfl
      simp only [Act.put, za, zb, zc, zd, ze, zf]
      refine tkY 67 (v := ?_) rfl ?_ ?_
      rotate_left
      · (intro w hSw; (try dsimp only at hSw); go_simp) <;> with_reducible rfl
      simp only [Act.put, za, zb, zc, zd, ze, zf]
      refine tkN 68 rfl ?_
      simp only [Act.put, za, zb, zc, zd, ze, zf]
      refine tkN 69 rfl ?_
      simp only [Act.put, za, zb, zc, zd, ze, zf]
      refine tkN 70 rfl ?_
      simp only [Act.put, za, zb, zc, zd, ze, zf]
      refine tkY 71 (v := ?_) rfl ?_ ?_
      rotate_left
      · (intro w hSw; (try dsimp only at hSw); go_simp) <;> with_reducible rfl
      simp only [Act.put, za, zb, zc, zd, ze, zf]
      refine wpAnyH_done (by kernel_rfl) ?_ _
      have hD : D = false := by rw [HD.out]; exact decide_eq_false (by omega)
      go_wp2_with fail
      go_meet
      exact ⟨by rw [hD]; rfl, rfl⟩
    · have t11 : (mto == id) = true := by simpa using q11
      have t11' : (mto != id) = false := by simpa using q11
      refine tkY 6 (v := ?_) rfl ?_ ?_
      rotate_left
      · (intro w hSw; (try dsimp only at hSw); go_simp) <;> with_reducible rfl
      simp only [Act.put, za, zb, zc, zd, ze, zf]
      refine tkY 7 (v := ?_) rfl ?_ ?_
      rotate_left
      · (intro w hSw; (try dsimp only at hSw); go_simp) <;> with_reducible rfl
      simp only [Act.put, za, zb, zc, zd, ze, zf]
      refine tkY 8 (v := ?_) rfl ?_ ?_
      rotate_left
      · (intro w hSw; (try dsimp only at hSw); go_simp) <;> with_reducible rfl
      simp only [Act.put, za, zb, zc, zd, ze, zf]
      refine tkY 9 (v := ?_) rfl ?_ ?_
      rotate_left
      · (intro w hSw; (try dsimp only at hSw); go_simp) <;> with_reducible rfl
      simp only [Act.put, za, zb, zc, zd, ze, zf]
      refine tkY 10 (v := ?_) rfl ?_ ?_
      rotate_left
      · (intro w hSw; (try dsimp only at hSw); go_simp) <;> with_reducible rfl
      simp only [Act.put, za, zb, zc, zd, ze, zf]
      refine tkY 11 (v := ?_) rfl ?_ ?_
      rotate_left
      · (intro w hSw; (try dsimp only at hSw); go_simp) <;> with_reducible rfl
      simp only [Act.put, za, zb, zc, zd, ze, zf]
      refine tkY 12 (v := ?_) rfl ?_ ?_
      rotate_left
      · (intro w hSw; (try dsimp only at hSw); go_simp) <;> with_reducible rfl
      simp only [Act.put, za, zb, zc, zd, ze, zf]
      refine tkY 13 (v := ?_) rfl ?_ ?_
      rotate_left
      · (intro w hSw; (try dsimp only at hSw); go_simp) <;> with_reducible rfl
      simp only [Act.put, za, zb, zc, zd, ze, zf]
      by_cases q19 : mf = id
      · have t19 : (mf == id) = true := by simpa using q19
        refine tkY 14 (v := ?_) rfl ?_ ?_
        rotate_left
        · (intro w hSw; (try dsimp only at hSw); go_simp) <;> with_reducible rfl
        simp only [Act.put, za, zb, zc, zd, ze, zf]
        refine tkY 15 (v := ?_) rfl ?_ ?_
        rotate_left
        · (intro w hSw; (try dsimp only at hSw); go_simp) <;> with_reducible rfl
        simp only [Act.put, za, zb, zc, zd, ze, zf]
        refine tkY 16 (v := ?_) rfl ?_ ?_
        rotate_left
        · (intro w hSw; (try dsimp only at hSw); go_simp) <;> with_reducible rfl
        simp only [Act.put, za, zb, zc, zd, ze, zf]
        refine tkN 17 rfl ?_
        simp only [Act.put, za, zb, zc, zd, ze, zf]
        refine tkN 18 rfl ?_
        simp only [Act.put, za, zb, zc, zd, ze, zf]
        refine tkN 19 rfl ?_
        simp only [Act.put, za, zb, zc, zd, ze, zf]
        refine tkY 20 (v := ?_) rfl ?_ ?_
        rotate_left
        · (intro w hSw; (try dsimp only at hSw); go_simp) <;> with_reducible rfl
        simp only [Act.put, za, zb, zc, zd, ze, zf]
        refine tkY 21 (v := ?_) rfl ?_ ?_
        rotate_left
        · (intro w hSw; (try dsimp only at hSw); go_simp) <;> with_reducible rfl
        simp only [Act.put, za, zb, zc, zd, ze, zf]
        refine tkN 22 rfl ?_
        simp only [Act.put, za, zb, zc, zd, ze, zf]
        refine tkN 23 rfl ?_
        simp only [Act.put, za, zb, zc, zd, ze, zf]
        refine tkN 24 rfl ?_
        simp only [Act.put, za, zb, zc, zd, ze, zf]
        refine tkN 25 rfl ?_
        simp only [Act.put, za, zb, zc, zd, ze, zf]
        refine tkN 26 rfl ?_
        simp only [Act.put, za, zb, zc, zd, ze, zf]
        refine tkN 27 rfl ?_
        simp only [Act.put, za, zb, zc, zd, ze, zf]
        refine tkN 28 rfl ?_
        simp only [Act.put, za, zb, zc, zd, ze, zf]
        refine tkY 29 (v := ?_) rfl ?_ ?_
        rotate_left
        · (intro w hSw; (try dsimp only at hSw); go_simp) <;> with_reducible rfl
        simp only [Act.put, za, zb, zc, zd, ze, zf]
        refine tkY 30 (v := ?_) rfl ?_ ?_
        rotate_left
        · (intro w hSw; (try dsimp only at hSw); go_simp) <;> with_reducible rfl
        simp only [Act.put, za, zb, zc, zd, ze, zf]
        refine tkN 31 rfl ?_
        simp only [Act.put, za, zb, zc, zd, ze, zf]
        refine tkN 32 rfl ?_
        simp only [Act.put, za, zb, zc, zd, ze, zf]
        refine tkN 33 rfl ?_
        simp only [Act.put, za, zb, zc, zd, ze, zf]
        refine tkY 34 (v := ?_) rfl ?_ ?_
        rotate_left
        · (intro w hSw; (try dsimp only at hSw); go_simp) <;> with_reducible rfl
        simp only [Act.put, za, zb, zc, zd, ze, zf]
        refine tkY 35 (v := ?_) rfl ?_ ?_
        rotate_left
        · (intro w hSw; (try dsimp only at hSw); go_simp) <;> with_reducible rfl
        simp only [Act.put, za, zb, zc, zd, ze, zf]
        refine tkN 36 rfl ?_
        simp only [Act.put, za, zb, zc, zd, ze, zf]
        refine tkN 37 rfl ?_
        simp only [Act.put, za, zb, zc, zd, ze, zf]
        refine tkN 38 rfl ?_
        simp only [Act.put, za, zb, zc, zd, ze, zf]
        refine tkY 39 (v := ?_) rfl ?_ ?_
        rotate_left
        · (intro w hSw; (try dsimp only at hSw); go_simp) <;> with_reducible rfl
        simp only [Act.put, za, zb, zc, zd, ze, zf]
        refine tkY 40 (v := ?_) rfl ?_ ?_
        rotate_left
        · (intro w hSw; (try dsimp only at hSw); go_simp) <;> with_reducible rfl
        simp only [Act.put, za, zb, zc, zd, ze, zf]
        refine tkN 41 rfl ?_
        simp only [Act.put, za, zb, zc, zd, ze, zf]
        refine tkN 42 rfl ?_
        simp only [Act.put, za, zb, zc, zd, ze, zf]
        refine tkN 43 rfl ?_
        simp only [Act.put, za, zb, zc, zd, ze, zf]
        refine tkY 44 (v := ?_) rfl ?_ ?_
        rotate_left
        · (intro w hSw; (try dsimp only at hSw); go_simp) <;> with_reducible rfl
        simp only [Act.put, za, zb, zc, zd, ze, zf]
        refine tkY 45 (v := ?_) rfl ?_ ?_
        rotate_left
        · (intro w hSw; (try dsimp only at hSw); go_simp) <;> with_reducible rfl
        simp only [Act.put, za, zb, zc, zd, ze, zf]
        refine tkN 46 rfl ?_
        simp only [Act.put, za, zb, zc, zd, ze, zf]
        refine tkN 47 rfl ?_
        simp only [Act.put, za, zb, zc, zd, ze, zf]
        refine tkN 48 rfl ?_
        simp only [Act.put, za, zb, zc, zd, ze, zf]
        refine tkY 49 (v := ?_) rfl ?_ ?_
        rotate_left
        · (intro w hSw; (try dsimp only at hSw); go_simp) <;> with_reducible rfl
        simp only [Act.put, za, zb, zc, zd, ze, zf]
        refine tkY 50 (v := ?_) rfl ?_ ?_
        rotate_left
        · (intro w hSw; (try dsimp only at hSw); go_simp) <;> with_reducible rfl
        simp only [Act.put, za, zb, zc, zd, ze, zf]
        refine tkN 51 rfl ?_
        simp only [Act.put, za, zb, zc, zd, ze, zf]
        refine tkN 52 rfl ?_
        simp only [Act.put, za, zb, zc, zd, ze, zf]
        refine tkN 53 rfl ?_
        simp only [Act.put, za, zb, zc, zd, ze, zf]
        refine tkY 54 (v := ?_) rfl ?_ ?_
        rotate_left
        · (intro w hSw; (try dsimp only at hSw); go_simp) <;> with_reducible rfl
        simp only [Act.put, za, zb, zc, zd, ze, zf]
        refine tkY 55 (v := ?_) rfl ?_ ?_
        rotate_left
        · (intro w hSw; (try dsimp only at hSw); go_simp) <;> with_reducible rfl
        simp only [Act.put, za, zb, zc, zd, ze, zf]
        refine tkN 56 rfl ?_
        simp only [Act.put, za, zb, zc, zd, ze, zf]
        refine tkN 57 rfl ?_
        simp only [Act.put, za, zb, zc, zd, ze, zf]
        refine tkN 58 rfl ?_
        simp only [Act.put, za, zb, zc, zd, ze, zf]
        refine tkN 59 rfl ?_
        simp only [Act.put, za, zb, zc, zd, ze, zf]
        refine tkN 60 rfl ?_
        simp only [Act.put, za, zb, zc, zd, ze, zf]
        refine tkY 61 (v := ?_) rfl ?_ ?_
        rotate_left
        · (intro w hSw; (try dsimp only at hSw); go_simp) <;> with_reducible rfl
        simp only [Act.put, za, zb, zc, zd, ze, zf]
        refine tkY 62 (v := ?_) rfl ?_ ?_
        rotate_left
        · (intro w hSw; (try dsimp only at hSw); go_simp) <;> with_reducible rfl
        simp only [Act.put, za, zb, zc, zd, ze, zf]
        refine tkN 63 rfl ?_
        simp only [Act.put, za, zb, zc, zd, ze, zf]
        refine tkN 64 rfl ?_
        simp only [Act.put, za, zb, zc, zd, ze, zf]
        refine tkN 65 rfl ?_
        simp only [Act.put, za, zb, zc, zd, ze, zf]
        refine tkY 66 (v := ?_) rfl ?_ ?_
        rotate_left
        · (intro w hSw; (try dsimp only at hSw); go_simp) <;> with_reducible rfl
        simp only [Act.put, za, zb, zc, zd, ze, zf]
        refine tkY 67 (v := ?_) rfl ?_ ?_
        rotate_left
        · (intro w hSw; (try dsimp only at hSw); go_simp) <;> with_reducible rfl
        simp only [Act.put, za, zb, zc, zd, ze, zf]
        refine tkN 68 rfl ?_
        simp only [Act.put, za, zb, zc, zd, ze, zf]
        refine tkN 69 rfl ?_
        simp only [Act.put, za, zb, zc, zd, ze, zf]
        refine tkN 70 rfl ?_
        simp only [Act.put, za, zb, zc, zd, ze, zf]
        refine tkY 71 (v := ?_) rfl ?_ ?_
        rotate_left
        · (intro w hSw; (try dsimp only at hSw); go_simp) <;> with_reducible rfl
        simp only [Act.put, za, zb, zc, zd, ze, zf]
        refine wpAnyH_done (by kernel_rfl) ?_ _
        have hD : D = false := by rw [HD.out]; exact decide_eq_false (by omega)
        go_wp2_with fail
        go_meet
        exact ⟨by rw [hD]; rfl, rfl⟩
      · have t19 : (mf == id) = false := by simpa using q19
        refine tkY 14 (v := ?_) rfl ?_ ?_
        rotate_left
        · (intro w hSw; (try dsimp only at hSw); go_simp) <;> with_reducible rfl
        simp only [Act.put, za, zb, zc, zd, ze, zf]
        refine tkY 15 (v := ?_) rfl ?_ ?_
        rotate_left
        · (intro w hSw; (try dsimp only at hSw); go_simp) <;> with_reducible rfl
        simp only [Act.put, za, zb, zc, zd, ze, zf]
        refine tkY 16 (v := ?_) rfl ?_ ?_
        rotate_left
        · (intro w hSw; (try dsimp only at hSw); go_simp) <;> with_reducible rfl
        simp only [Act.put, za, zb, zc, zd, ze, zf]
        refine tkY 17 (v := ?_) rfl ?_ ?_
        rotate_left
        · (intro w hSw; (try dsimp only at hSw); go_simp) <;> with_reducible rfl
        simp only [Act.put, za, zb, zc, zd, ze, zf]
        refine tkY 18 (v := ?_) rfl ?_ ?_
        rotate_left
        · (intro w hSw; (try dsimp only at hSw); go_simp) <;> with_reducible rfl
        simp only [Act.put, za, zb, zc, zd, ze, zf]
        by_cases q24 : mf < 0
        · have t24 : decide (mf < 0) = true := by simpa using q24
          refine tkY 19 (v := ?_) rfl ?_ ?_
          rotate_left
          · (intro w hSw; (try dsimp only at hSw); go_simp) <;> with_reducible rfl
          simp only [Act.put, za, zb, zc, zd, ze, zf]
          refine tkY 20 (v := ?_) rfl ?_ ?_
          rotate_left
          · (intro w hSw; (try dsimp only at hSw); go_simp) <;> with_reducible rfl
          simp only [Act.put, za, zb, zc, zd, ze, zf]
          refine tkY 21 (v := ?_) rfl ?_ ?_
          rotate_left
          · (intro w hSw; (try dsimp only at hSw); go_simp) <;> with_reducible rfl
          simp only [Act.put, za, zb, zc, zd, ze, zf]
          refine tkN 22 rfl ?_
          simp only [Act.put, za, zb, zc, zd, ze, zf]
          refine tkN 23 rfl ?_
          simp only [Act.put, za, zb, zc, zd, ze, zf]
          refine tkN 24 rfl ?_
          simp only [Act.put, za, zb, zc, zd, ze, zf]
          refine tkN 25 rfl ?_
          simp only [Act.put, za, zb, zc, zd, ze, zf]
          refine tkN 26 rfl ?_
          simp only [Act.put, za, zb, zc, zd, ze, zf]
          refine tkN 27 rfl ?_
          simp only [Act.put, za, zb, zc, zd, ze, zf]
          refine tkN 28 rfl ?_
          simp only [Act.put, za, zb, zc, zd, ze, zf]
          refine tkY 29 (v := ?_) rfl ?_ ?_
          rotate_left
          · (intro w hSw; (try dsimp only at hSw); go_simp) <;> with_reducible rfl
          simp only [Act.put, za, zb, zc, zd, ze, zf]
          refine tkY 30 (v := ?_) rfl ?_ ?_
          rotate_left
          · (intro w hSw; (try dsimp only at hSw); go_simp) <;> with_reducible rfl
          simp only [Act.put, za, zb, zc, zd, ze, zf]
          refine tkN 31 rfl ?_
          simp only [Act.put, za, zb, zc, zd, ze, zf]
          refine tkN 32 rfl ?_
          simp only [Act.put, za, zb, zc, zd, ze, zf]
          refine tkN 33 rfl ?_
          simp only [Act.put, za, zb, zc, zd, ze, zf]
          refine tkY 34 (v := ?_) rfl ?_ ?_
          rotate_left
          · (intro w hSw; (try dsimp only at hSw); go_simp) <;> with_reducible rfl
          simp only [Act.put, za, zb, zc, zd, ze, zf]
          refine tkY 35 (v := ?_) rfl ?_ ?_
          rotate_left
          · (intro w hSw; (try dsimp only at hSw); go_simp) <;> with_reducible rfl
          simp only [Act.put, za, zb, zc, zd, ze, zf]
          refine tkN 36 rfl ?_
          simp only [Act.put, za, zb, zc, zd, ze, zf]
          refine tkN 37 rfl ?_
          simp only [Act.put, za, zb, zc, zd, ze, zf]
          refine tkN 38 rfl ?_
          simp only [Act.put, za, zb, zc, zd, ze, zf]
          refine tkY 39 (v := ?_) rfl ?_ ?_
          rotate_left
          · (intro w hSw; (try dsimp only at hSw); go_simp) <;> with_reducible rfl
          simp only [Act.put, za, zb, zc, zd, ze, zf]
          refine tkY 40 (v := ?_) rfl ?_ ?_
          rotate_left
          · (intro w hSw; (try dsimp only at hSw); go_simp) <;> with_reducible rfl
          simp only [Act.put, za, zb, zc, zd, ze, zf]
          refine tkN 41 rfl ?_
          simp only [Act.put, za, zb, zc, zd, ze, zf]
          refine tkN 42 rfl ?_
          simp only [Act.put, za, zb, zc, zd, ze, zf]
          refine tkN 43 rfl ?_
          simp only [Act.put, za, zb, zc, zd, ze, zf]
          refine tkY 44 (v := ?_) rfl ?_ ?_
          rotate_left
          · (intro w hSw; (try dsimp only at hSw); go_simp) <;> with_reducible rfl
          simp only [Act.put, za, zb, zc, zd, ze, zf]
          refine tkY 45 (v := ?_) rfl ?_ ?_
          rotate_left
          · (intro w hSw; (try dsimp only at hSw); go_simp) <;> with_reducible rfl
          simp only [Act.put, za, zb, zc, zd, ze, zf]
          refine tkN 46 rfl ?_
          simp only [Act.put, za, zb, zc, zd, ze, zf]
          refine tkN 47 rfl ?_
          simp only [Act.put, za, zb, zc, zd, ze, zf]
          refine tkN 48 rfl ?_
          simp only [Act.put, za, zb, zc, zd, ze, zf]
          refine tkY 49 (v := ?_) rfl ?_ ?_
          rotate_left
          · (intro w hSw; (try dsimp only at hSw); go_simp) <;> with_reducible rfl
          simp only [Act.put, za, zb, zc, zd, ze, zf]
          refine tkY 50 (v := ?_) rfl ?_ ?_
          rotate_left
          · (intro w hSw; (try dsimp only at hSw); go_simp) <;> with_reducible rfl
          simp only [Act.put, za, zb, zc, zd, ze, zf]
          refine tkN 51 rfl ?_
          simp only [Act.put, za, zb, zc, zd, ze, zf]
          refine tkN 52 rfl ?_
          simp only [Act.put, za, zb, zc, zd, ze, zf]
          refine tkN 53 rfl ?_
          simp only [Act.put, za, zb, zc, zd, ze, zf]
          refine tkY 54 (v := ?_) rfl ?_ ?_
          rotate_left
          · (intro w hSw; (try dsimp only at hSw); go_simp) <;> with_reducible rfl
          simp only [Act.put, za, zb, zc, zd, ze, zf]
          refine tkY 55 (v := ?_) rfl ?_ ?_
          rotate_left
          · (intro w hSw; (try dsimp only at hSw); go_simp) <;> with_reducible rfl
          simp only [Act.put, za, zb, zc, zd, ze, zf]
          refine tkN 56 rfl ?_
          simp only [Act.put, za, zb, zc, zd, ze, zf]
          refine tkN 57 rfl ?_
          simp only [Act.put, za, zb, zc, zd, ze, zf]
          refine tkN 58 rfl ?_
          simp only [Act.put, za, zb, zc, zd, ze, zf]
          refine tkN 59 rfl ?_
          simp only [Act.put, za, zb, zc, zd, ze, zf]
          refine tkN 60 rfl ?_
          simp only [Act.put, za, zb, zc, zd, ze, zf]
          refine tkY 61 (v := ?_) rfl ?_ ?_
          rotate_left
          · (intro w hSw; (try dsimp only at hSw); go_simp) <;> with_reducible rfl
          simp only [Act.put, za, zb, zc, zd, ze, zf]
          refine tkY 62 (v := ?_) rfl ?_ ?_
          rotate_left
          · (intro w hSw; (try dsimp only at hSw); go_simp) <;> with_reducible rfl
          simp only [Act.put, za, zb, zc, zd, ze, zf]
          refine tkN 63 rfl ?_
          simp only [Act.put, za, zb, zc, zd, ze, zf]
          refine tkN 64 rfl ?_
          simp only [Act.put, za, zb, zc, zd, ze, zf]
          refine tkN 65 rfl ?_
          simp only [Act.put, za, zb, zc, zd, ze, zf]
          refine tkY 66 (v := ?_) rfl ?_ ?_
          rotate_left
          · (intro w hSw; (try dsimp only at hSw); go_simp) <;> with_reducible rfl
          simp only [Act.put, za, zb, zc, zd, ze, zf]
          refine tkY 67 (v := ?_) rfl ?_ ?_
          rotate_left
          · (intro w hSw; (try dsimp only at hSw); go_simp) <;> with_reducible rfl
          simp only [Act.put, za, zb, zc, zd, ze, zf]
          refine tkN 68 rfl ?_
          simp only [Act.put, za, zb, zc, zd, ze, zf]
          refine tkN 69 rfl ?_
          simp only [Act.put, za, zb, zc, zd, ze, zf]
          refine tkN 70 rfl ?_
          simp only [Act.put, za, zb, zc, zd, ze, zf]
          refine tkY 71 (v := ?_) rfl ?_ ?_
          rotate_left
          · (intro w hSw; (try dsimp only at hSw); go_simp) <;> with_reducible rfl
          simp only [Act.put, za, zb, zc, zd, ze, zf]
          refine wpAnyH_done (by kernel_rfl) ?_ _
          have hD : D = false := by rw [HD.out]; exact decide_eq_false (by omega)
          go_wp2_with fail
          go_meet
          exact ⟨by rw [hD]; rfl, rfl⟩
        · have t24 : decide (mf < 0) = false := by simpa using q24
          refine tkY 19 (v := ?_) rfl ?_ ?_
          rotate_left
          · (intro w hSw; (try dsimp only at hSw); go_simp) <;> with_reducible rfl
          simp only [Act.put, za, zb, zc, zd, ze, zf]
          refine tkY 20 (v := ?_) rfl ?_ ?_
          rotate_left
          · (intro w hSw; (try dsimp only at hSw); go_simp) <;> with_reducible rfl
          simp only [Act.put, za, zb, zc, zd, ze, zf]
          refine tkY 21 (v := ?_) rfl ?_ ?_
          rotate_left
          · (intro w hSw; (try dsimp only at hSw); go_simp) <;> with_reducible rfl
          simp only [Act.put, za, zb, zc, zd, ze, zf]
          refine tkY 22 (v := ?_) rfl ?_ ?_
          rotate_left
          · (intro w hSw; (try dsimp only at hSw); go_simp) <;> with_reducible rfl
          simp only [Act.put, za, zb, zc, zd, ze, zf]
          refine tkY 23 (v := ?_) rfl ?_ ?_
          rotate_left
          · (intro w hSw; (try dsimp only at hSw); go_simp) <;> with_reducible rfl
          simp only [Act.put, za, zb, zc, zd, ze, zf]
          refine tkY 24 (v := ?_) rfl ?_ ?_
          rotate_left
          · (intro w hSw; (try dsimp only at hSw); go_simp) <;> with_reducible rfl
          simp only [Act.put, za, zb, zc, zd, ze, zf]
          refine tkY 25 (v := ?_) rfl ?_ ?_
          rotate_left
          · (intro w hSw; (try dsimp only at hSw); go_simp) <;> with_reducible rfl
          simp only [Act.put, za, zb, zc, zd, ze, zf]
          refine tkY 26 (v := ?_) rfl ?_ ?_
          rotate_left
          · (intro w hSw; (try dsimp only at hSw); go_simp) <;> with_reducible rfl
          simp only [Act.put, za, zb, zc, zd, ze, zf]
          refine tkY 27 (v := ?_) rfl ?_ ?_
          rotate_left
          · (intro w hSw; (try dsimp only at hSw); go_simp) <;> with_reducible rfl
          simp only [Act.put, za, zb, zc, zd, ze, zf]
          by_cases q33 : nn ≤ mf
          · have t33 : decide (nn ≤ mf) = true := by simpa using q33
            refine tkY 28 (v := ?_) rfl ?_ ?_
            rotate_left
            · (intro w hSw; (try dsimp only at hSw); go_simp) <;> with_reducible rfl
            simp only [Act.put, za, zb, zc, zd, ze, zf]
            refine tkY 29 (v := ?_) rfl ?_ ?_
            rotate_left
            · (intro w hSw; (try dsimp only at hSw); go_simp) <;> with_reducible rfl
            simp only [Act.put, za, zb, zc, zd, ze, zf]
            refine tkY 30 (v := ?_) rfl ?_ ?_
            rotate_left
            · (intro w hSw; (try dsimp only at hSw); go_simp) <;> with_reducible rfl
            simp only [Act.put, za, zb, zc, zd, ze, zf]
            refine tkN 31 rfl ?_
            simp only [Act.put, za, zb, zc, zd, ze, zf]
            refine tkN 32 rfl ?_
            simp only [Act.put, za, zb, zc, zd, ze, zf]
            refine tkN 33 rfl ?_
            simp only [Act.put, za, zb, zc, zd, ze, zf]
            refine tkY 34 (v := ?_) rfl ?_ ?_
            rotate_left
            · (intro w hSw; (try dsimp only at hSw); go_simp) <;> with_reducible rfl
            simp only [Act.put, za, zb, zc, zd, ze, zf]
            refine tkY 35 (v := ?_) rfl ?_ ?_
            rotate_left
            · (intro w hSw; (try dsimp only at hSw); go_simp) <;> with_reducible rfl
            simp only [Act.put, za, zb, zc, zd, ze, zf]
            refine tkN 36 rfl ?_
            simp only [Act.put, za, zb, zc, zd, ze, zf]
            refine tkN 37 rfl ?_
            simp only [Act.put, za, zb, zc, zd, ze, zf]
            refine tkN 38 rfl ?_
            simp only [Act.put, za, zb, zc, zd, ze, zf]
            refine tkY 39 (v := ?_) rfl ?_ ?_
            rotate_left
            · (intro w hSw; (try dsimp only at hSw); go_simp) <;> with_reducible rfl
            simp only [Act.put, za, zb, zc, zd, ze, zf]
            refine tkY 40 (v := ?_) rfl ?_ ?_
            rotate_left
            · (intro w hSw; (try dsimp only at hSw); go_simp) <;> with_reducible rfl
            simp only [Act.put, za, zb, zc, zd, ze, zf]
            refine tkN 41 rfl ?_
            simp only [Act.put, za, zb, zc, zd, ze, zf]
            refine tkN 42 rfl ?_
            simp only [Act.put, za, zb, zc, zd, ze, zf]
            refine tkN 43 rfl ?_
            simp only [Act.put, za, zb, zc, zd, ze, zf]
            refine tkY 44 (v := ?_) rfl ?_ ?_
            rotate_left
            · (intro w hSw; (try dsimp only at hSw); go_simp) <;> with_reducible rfl
            simp only [Act.put, za, zb, zc, zd, ze, zf]
            refine tkY 45 (v := ?_) rfl ?_ ?_
            rotate_left
            · (intro w hSw; (try dsimp only at hSw); go_simp) <;> with_reducible rfl
            simp only [Act.put, za, zb, zc, zd, ze, zf]
            refine tkN 46 rfl ?_
            simp only [Act.put, za, zb, zc, zd, ze, zf]
            refine tkN 47 rfl ?_
            simp only [Act.put, za, zb, zc, zd, ze, zf]
            refine tkN 48 rfl ?_
            simp only [Act.put, za, zb, zc, zd, ze, zf]
            refine tkY 49 (v := ?_) rfl ?_ ?_
            rotate_left
            · (intro w hSw; (try dsimp only at hSw); go_simp) <;> with_reducible rfl
            simp only [Act.put, za, zb, zc, zd, ze, zf]
            refine tkY 50 (v := ?_) rfl ?_ ?_
            rotate_left
            · (intro w hSw; (try dsimp only at hSw); go_simp) <;> with_reducible rfl
            simp only [Act.put, za, zb, zc, zd, ze, zf]
            refine tkN 51 rfl ?_
            simp only [Act.put, za, zb, zc, zd, ze, zf]
            refine tkN 52 rfl ?_
            simp only [Act.put, za, zb, zc, zd, ze, zf]
            refine tkN 53 rfl ?_
            simp only [Act.put, za, zb, zc, zd, ze, zf]
            refine tkY 54 (v := ?_) rfl ?_ ?_
            rotate_left
            · (intro w hSw; (try dsimp only at hSw); go_simp) <;> with_reducible rfl
            simp only [Act.put, za, zb, zc, zd, ze, zf]
            refine tkY 55 (v := ?_) rfl ?_ ?_
            rotate_left
            · (intro w hSw; (try dsimp only at hSw); go_simp) <;> with_reducible rfl
            simp only [Act.put, za, zb, zc, zd, ze, zf]
            refine tkN 56 rfl ?_
            simp only [Act.put, za, zb, zc, zd, ze, zf]
            refine tkN 57 rfl ?_
            simp only [Act.put, za, zb, zc, zd, ze, zf]
            refine tkN 58 rfl ?_
            simp only [Act.put, za, zb, zc, zd, ze, zf]
            refine tkN 59 rfl ?_
            simp only [Act.put, za, zb, zc, zd, ze, zf]
            refine tkN 60 rfl ?_
            simp only [Act.put, za, zb, zc, zd, ze, zf]
            refine tkY 61 (v := ?_) rfl ?_ ?_
            rotate_left
            · (intro w hSw; (try dsimp only at hSw); go_simp) <;> with_reducible rfl
            simp only [Act.put, za, zb, zc, zd, ze, zf]
            refine tkY 62 (v := ?_) rfl ?_ ?_
            rotate_left
            · (intro w hSw; (try dsimp only at hSw); go_simp) <;> with_reducible rfl
            simp only [Act.put, za, zb, zc, zd, ze, zf]
            refine tkN 63 rfl ?_
            simp only [Act.put, za, zb, zc, zd, ze, zf]
            refine tkN 64 rfl ?_
            simp only [Act.put, za, zb, zc, zd, ze, zf]
            refine tkN 65 rfl ?_
            simp only [Act.put, za, zb, zc, zd, ze, zf]
            refine tkY 66 (v := ?_) rfl ?_ ?_
            rotate_left
            · (intro w hSw; (try dsimp only at hSw); go_simp) <;> with_reducible rfl
            simp only [Act.put, za, zb, zc, zd, ze, zf]
            refine tkY 67 (v := ?_) rfl ?_ ?_
            rotate_left
            · (intro w hSw; (try dsimp only at hSw); go_simp) <;> with_reducible rfl
            simp only [Act.put, za, zb, zc, zd, ze, zf]
            refine tkN 68 rfl ?_
            simp only [Act.put, za, zb, zc, zd, ze, zf]
            refine tkN 69 rfl ?_
            simp only [Act.put, za, zb, zc, zd, ze, zf]
            refine tkN 70 rfl ?_
            simp only [Act.put, za, zb, zc, zd, ze, zf]
            refine tkY 71 (v := ?_) rfl ?_ ?_
            rotate_left
            · (intro w hSw; (try dsimp only at hSw); go_simp) <;> with_reducible rfl
            simp only [Act.put, za, zb, zc, zd, ze, zf]
            refine wpAnyH_done (by kernel_rfl) ?_ _
            have hD : D = false := by rw [HD.out]; exact decide_eq_false (by omega)
            go_wp2_with fail
            go_meet
            exact ⟨by rw [hD]; rfl, rfl⟩
          · have t33 : decide (nn ≤ mf) = false := by simpa using q33
            refine tkY 28 (v := ?_) rfl ?_ ?_
            rotate_left
            · (intro w hSw; (try dsimp only at hSw); go_simp) <;> with_reducible rfl
            simp only [Act.put, za, zb, zc, zd, ze, zf]
            refine tkY 29 (v := ?_) rfl ?_ ?_
            rotate_left
            · (intro w hSw; (try dsimp only at hSw); go_simp) <;> with_reducible rfl
            simp only [Act.put, za, zb, zc, zd, ze, zf]
            refine tkY 30 (v := ?_) rfl ?_ ?_
            rotate_left
            · (intro w hSw; (try dsimp only at hSw); go_simp) <;> with_reducible rfl
            simp only [Act.put, za, zb, zc, zd, ze, zf]
            refine tkY 31 (v := ?_) rfl ?_ ?_
            rotate_left
            · (intro w hSw; (try dsimp only at hSw); go_simp) <;> with_reducible rfl
            simp only [Act.put, za, zb, zc, zd, ze, zf]
            refine tkY 32 (v := ?_) rfl ?_ ?_
            rotate_left
            · (intro w hSw; (try dsimp only at hSw); go_simp) <;> with_reducible rfl
            simp only [Act.put, za, zb, zc, zd, ze, zf]
            by_cases q38 : mt < 1
            · have t38 : decide (mt < 1) = true := by simpa using q38
              refine tkY 33 (v := ?_) rfl ?_ ?_
              rotate_left
              · (intro w hSw; (try dsimp only at hSw); go_simp) <;> with_reducible rfl
              simp only [Act.put, za, zb, zc, zd, ze, zf]
              refine tkY 34 (v := ?_) rfl ?_ ?_
              rotate_left
              · (intro w hSw; (try dsimp only at hSw); go_simp) <;> with_reducible rfl
              simp only [Act.put, za, zb, zc, zd, ze, zf]
              refine tkY 35 (v := ?_) rfl ?_ ?_
              rotate_left
              · (intro w hSw; (try dsimp only at hSw); go_simp) <;> with_reducible rfl
              simp only [Act.put, za, zb, zc, zd, ze, zf]
              refine tkN 36 rfl ?_
              simp only [Act.put, za, zb, zc, zd, ze, zf]
              refine tkN 37 rfl ?_
              simp only [Act.put, za, zb, zc, zd, ze, zf]
              refine tkN 38 rfl ?_
              simp only [Act.put, za, zb, zc, zd, ze, zf]
              refine tkY 39 (v := ?_) rfl ?_ ?_
              rotate_left
              · (intro w hSw; (try dsimp only at hSw); go_simp) <;> with_reducible rfl
              simp only [Act.put, za, zb, zc, zd, ze, zf]
              refine tkY 40 (v := ?_) rfl ?_ ?_
              rotate_left
              · (intro w hSw; (try dsimp only at hSw); go_simp) <;> with_reducible rfl
              simp only [Act.put, za, zb, zc, zd, ze, zf]
              refine tkN 41 rfl ?_
              simp only [Act.put, za, zb, zc, zd, ze, zf]
              refine tkN 42 rfl ?_
              simp only [Act.put, za, zb, zc, zd, ze, zf]
              refine tkN 43 rfl ?_
              simp only [Act.put, za, zb, zc, zd, ze, zf]
              refine tkY 44 (v := ?_) rfl ?_ ?_
              rotate_left
              · (intro w hSw; (try dsimp only at hSw); go_simp) <;> with_reducible rfl
              simp only [Act.put, za, zb, zc, zd, ze, zf]
              refine tkY 45 (v := ?_) rfl ?_ ?_
              rotate_left
              · (intro w hSw; (try dsimp only at hSw); go_simp) <;> with_reducible rfl
              simp only [Act.put, za, zb, zc, zd, ze, zf]
              refine tkN 46 rfl ?_
              simp only [Act.put, za, zb, zc, zd, ze, zf]
              refine tkN 47 rfl ?_
              simp only [Act.put, za, zb, zc, zd, ze, zf]
              refine tkN 48 rfl ?_
              simp only [Act.put, za, zb, zc, zd, ze, zf]
              refine tkY 49 (v := ?_) rfl ?_ ?_
              rotate_left
              · (intro w hSw; (try dsimp only at hSw); go_simp) <;> with_reducible rfl
              simp only [Act.put, za, zb, zc, zd, ze, zf]
              refine tkY 50 (v := ?_) rfl ?_ ?_
              rotate_left
              · (intro w hSw; (try dsimp only at hSw); go_simp) <;> with_reducible rfl
              simp only [Act.put, za, zb, zc, zd, ze, zf]
              refine tkN 51 rfl ?_
              simp only [Act.put, za, zb, zc, zd, ze, zf]
              refine tkN 52 rfl ?_
              simp only [Act.put, za, zb, zc, zd, ze, zf]
              refine tkN 53 rfl ?_
              simp only [Act.put, za, zb, zc, zd, ze, zf]
              refine tkY 54 (v := ?_) rfl ?_ ?_
              rotate_left
              · (intro w hSw; (try dsimp only at hSw); go_simp) <;> with_reducible rfl
              simp only [Act.put, za, zb, zc, zd, ze, zf]
              refine tkY 55 (v := ?_) rfl ?_ ?_
              rotate_left
              · (intro w hSw; (try dsimp only at hSw); go_simp) <;> with_reducible rfl
              simp only [Act.put, za, zb, zc, zd, ze, zf]
              refine tkN 56 rfl ?_
              simp only [Act.put, za, zb, zc, zd, ze, zf]
              refine tkN 57 rfl ?_
              simp only [Act.put, za, zb, zc, zd, ze, zf]
              refine tkN 58 rfl ?_
              simp only [Act.put, za, zb, zc, zd, ze, zf]
              refine tkN 59 rfl ?_
              simp only [Act.put, za, zb, zc, zd, ze, zf]
              refine tkN 60 rfl ?_
              simp only [Act.put, za, zb, zc, zd, ze, zf]
              refine tkY 61 (v := ?_) rfl ?_ ?_
              rotate_left
              · (intro w hSw; (try dsimp only at hSw); go_simp) <;> with_reducible rfl
              simp only [Act.put, za, zb, zc, zd, ze, zf]
              refine tkY 62 (v := ?_) rfl ?_ ?_
              rotate_left
              · (intro w hSw; (try dsimp only at hSw); go_simp) <;> with_reducible rfl
              simp only [Act.put, za, zb, zc, zd, ze, zf]
              refine tkN 63 rfl ?_
              simp only [Act.put, za, zb, zc, zd, ze, zf]
              refine tkN 64 rfl ?_
              simp only [Act.put, za, zb, zc, zd, ze, zf]
              refine tkN 65 rfl ?_
              simp only [Act.put, za, zb, zc, zd, ze, zf]
              refine tkY 66 (v := ?_) rfl ?_ ?_
              rotate_left
              · (intro w hSw; (try dsimp only at hSw); go_simp) <;> with_reducible rfl
              simp only [Act.put, za, zb, zc, zd, ze, zf]
              refine tkY 67 (v := ?_) rfl ?_ ?_
              rotate_left
              · (intro w hSw; (try dsimp only at hSw); go_simp) <;> with_reducible rfl
              simp only [Act.put, za, zb, zc, zd, ze, zf]
              refine tkN 68 rfl ?_
              simp only [Act.put, za, zb, zc, zd, ze, zf]
              refine tkN 69 rfl ?_
              simp only [Act.put, za, zb, zc, zd, ze, zf]
              refine tkN 70 rfl ?_
              simp only [Act.put, za, zb, zc, zd, ze, zf]
              refine tkY 71 (v := ?_) rfl ?_ ?_
              rotate_left
              · (intro w hSw; (try dsimp only at hSw); go_simp) <;> with_reducible rfl
              simp only [Act.put, za, zb, zc, zd, ze, zf]
              refine wpAnyH_done (by kernel_rfl) ?_ _
              have hD : D = false := by rw [HD.out]; exact decide_eq_false (by omega)
              go_wp2_with fail
              go_meet
              exact ⟨by rw [hD]; rfl, rfl⟩
            · have t38 : decide (mt < 1) = false := by simpa using q38
              refine tkY 33 (v := ?_) rfl ?_ ?_
              rotate_left
              · (intro w hSw; (try dsimp only at hSw); go_simp) <;> with_reducible rfl
              simp only [Act.put, za, zb, zc, zd, ze, zf]
              refine tkY 34 (v := ?_) rfl ?_ ?_
              rotate_left
              · (intro w hSw; (try dsimp only at hSw); go_simp) <;> with_reducible rfl
              simp only [Act.put, za, zb, zc, zd, ze, zf]
              refine tkY 35 (v := ?_) rfl ?_ ?_
              rotate_left
              · (intro w hSw; (try dsimp only at hSw); go_simp) <;> with_reducible rfl
              simp only [Act.put, za, zb, zc, zd, ze, zf]
              refine tkY 36 (v := ?_) rfl ?_ ?_
              rotate_left
              · (intro w hSw; (try dsimp only at hSw); go_simp) <;> with_reducible rfl
              simp only [Act.put, za, zb, zc, zd, ze, zf]
              refine tkY 37 (v := ?_) rfl ?_ ?_
              rotate_left
              · (intro w hSw; (try dsimp only at hSw); go_simp) <;> with_reducible rfl
              simp only [Act.put, za, zb, zc, zd, ze, zf]
              by_cases q43 : 1073741824 < mt
              · have t43 : decide (1073741824 < mt) = true := by simpa using q43
                refine tkY 38 (v := ?_) rfl ?_ ?_
                rotate_left
                · (intro w hSw; (try dsimp only at hSw); go_simp) <;> with_reducible rfl
                simp only [Act.put, za, zb, zc, zd, ze, zf]
                refine tkY 39 (v := ?_) rfl ?_ ?_
                rotate_left
                · (intro w hSw; (try dsimp only at hSw); go_simp) <;> with_reducible rfl
                simp only [Act.put, za, zb, zc, zd, ze, zf]
                refine tkY 40 (v := ?_) rfl ?_ ?_
                rotate_left
                · (intro w hSw; (try dsimp only at hSw); go_simp) <;> with_reducible rfl
                simp only [Act.put, za, zb, zc, zd, ze, zf]
                refine tkN 41 rfl ?_
                simp only [Act.put, za, zb, zc, zd, ze, zf]
                refine tkN 42 rfl ?_
                simp only [Act.put, za, zb, zc, zd, ze, zf]
                refine tkN 43 rfl ?_
                simp only [Act.put, za, zb, zc, zd, ze, zf]
                refine tkY 44 (v := ?_) rfl ?_ ?_
                rotate_left
                · (intro w hSw; (try dsimp only at hSw); go_simp) <;> with_reducible rfl
                simp only [Act.put, za, zb, zc, zd, ze, zf]
                refine tkY 45 (v := ?_) rfl ?_ ?_
                rotate_left
                · (intro w hSw; (try dsimp only at hSw); go_simp) <;> with_reducible rfl
                simp only [Act.put, za, zb, zc, zd, ze, zf]
                refine tkN 46 rfl ?_
                simp only [Act.put, za, zb, zc, zd, ze, zf]
                refine tkN 47 rfl ?_
                simp only [Act.put, za, zb, zc, zd, ze, zf]
                refine tkN 48 rfl ?_
                simp only [Act.put, za, zb, zc, zd, ze, zf]
                refine tkY 49 (v := ?_) rfl ?_ ?_
                rotate_left
                · (intro w hSw; (try dsimp only at hSw); go_simp) <;> with_reducible rfl
                simp only [Act.put, za, zb, zc, zd, ze, zf]
                refine tkY 50 (v := ?_) rfl ?_ ?_
                rotate_left
                · (intro w hSw; (try dsimp only at hSw); go_simp) <;> with_reducible rfl
                simp only [Act.put, za, zb, zc, zd, ze, zf]
                refine tkN 51 rfl ?_
                simp only [Act.put, za, zb, zc, zd, ze, zf]
                refine tkN 52 rfl ?_
                simp only [Act.put, za, zb, zc, zd, ze, zf]
                refine tkN 53 rfl ?_
                simp only [Act.put, za, zb, zc, zd, ze, zf]
                refine tkY 54 (v := ?_) rfl ?_ ?_
                rotate_left
                · (intro w hSw; (try dsimp only at hSw); go_simp) <;> with_reducible rfl
                simp only [Act.put, za, zb, zc, zd, ze, zf]
                refine tkY 55 (v := ?_) rfl ?_ ?_
                rotate_left
                · (intro w hSw; (try dsimp only at hSw); go_simp) <;> with_reducible rfl
                simp only [Act.put, za, zb, zc, zd, ze, zf]
                refine tkN 56 rfl ?_
                simp only [Act.put, za, zb, zc, zd, ze, zf]
                refine tkN 57 rfl ?_
                simp only [Act.put, za, zb, zc, zd, ze, zf]
                refine tkN 58 rfl ?_
                simp only [Act.put, za, zb, zc, zd, ze, zf]
                refine tkN 59 rfl ?_
                simp only [Act.put, za, zb, zc, zd, ze, zf]
                refine tkN 60 rfl ?_
                simp only [Act.put, za, zb, zc, zd, ze, zf]
                refine tkY 61 (v := ?_) rfl ?_ ?_
                rotate_left
                · (intro w hSw; (try dsimp only at hSw); go_simp) <;> with_reducible rfl
                simp only [Act.put, za, zb, zc, zd, ze, zf]
                refine tkY 62 (v := ?_) rfl ?_ ?_
                rotate_left
                · (intro w hSw; (try dsimp only at hSw); go_simp) <;> with_reducible rfl
                simp only [Act.put, za, zb, zc, zd, ze, zf]
                refine tkN 63 rfl ?_
                simp only [Act.put, za, zb, zc, zd, ze, zf]
                refine tkN 64 rfl ?_
                simp only [Act.put, za, zb, zc, zd, ze, zf]
                refine tkN 65 rfl ?_
                simp only [Act.put, za, zb, zc, zd, ze, zf]
                refine tkY 66 (v := ?_) rfl ?_ ?_
                rotate_left
                · (intro w hSw; (try dsimp only at hSw); go_simp) <;> with_reducible rfl
                simp only [Act.put, za, zb, zc, zd, ze, zf]
                refine tkY 67 (v := ?_) rfl ?_ ?_
                rotate_left
                · (intro w hSw; (try dsimp only at hSw); go_simp) <;> with_reducible rfl
                simp only [Act.put, za, zb, zc, zd, ze, zf]
                refine tkN 68 rfl ?_
                simp only [Act.put, za, zb, zc, zd, ze, zf]
                refine tkN 69 rfl ?_
                simp only [Act.put, za, zb, zc, zd, ze, zf]
                refine tkN 70 rfl ?_
                simp only [Act.put, za, zb, zc, zd, ze, zf]
                refine tkY 71 (v := ?_) rfl ?_ ?_
                rotate_left
                · (intro w hSw; (try dsimp only at hSw); go_simp) <;> with_reducible rfl
                simp only [Act.put, za, zb, zc, zd, ze, zf]
                refine wpAnyH_done (by kernel_rfl) ?_ _
                have hD : D = false := by rw [HD.out]; exact decide_eq_false (by omega)
                go_wp2_with fail
                go_meet
                exact ⟨by rw [hD]; rfl, rfl⟩
              · have t43 : decide (1073741824 < mt) = false := by simpa using q43
                refine tkY 38 (v := ?_) rfl ?_ ?_
                rotate_left
                · (intro w hSw; (try dsimp only at hSw); go_simp) <;> with_reducible rfl
                simp only [Act.put, za, zb, zc, zd, ze, zf]
                refine tkY 39 (v := ?_) rfl ?_ ?_
                rotate_left
                · (intro w hSw; (try dsimp only at hSw); go_simp) <;> with_reducible rfl
                simp only [Act.put, za, zb, zc, zd, ze, zf]
                refine tkY 40 (v := ?_) rfl ?_ ?_
                rotate_left
                · (intro w hSw; (try dsimp only at hSw); go_simp) <;> with_reducible rfl
                simp only [Act.put, za, zb, zc, zd, ze, zf]
                refine tkY 41 (v := ?_) rfl ?_ ?_
                rotate_left
                · (intro w hSw; (try dsimp only at hSw); go_simp) <;> with_reducible rfl
                simp only [Act.put, za, zb, zc, zd, ze, zf]
                refine tkY 42 (v := ?_) rfl ?_ ?_
                rotate_left
                · (intro w hSw; (try dsimp only at hSw); go_simp) <;> with_reducible rfl
                simp only [Act.put, za, zb, zc, zd, ze, zf]
                by_cases q48 : ix < 0
                · have t48 : decide (ix < 0) = true := by simpa using q48
                  refine tkY 43 (v := ?_) rfl ?_ ?_
                  rotate_left
                  · (intro w hSw; (try dsimp only at hSw); go_simp) <;> with_reducible rfl
                  simp only [Act.put, za, zb, zc, zd, ze, zf]
                  refine tkY 44 (v := ?_) rfl ?_ ?_
                  rotate_left
                  · (intro w hSw; (try dsimp only at hSw); go_simp) <;> with_reducible rfl
                  simp only [Act.put, za, zb, zc, zd, ze, zf]
                  refine tkY 45 (v := ?_) rfl ?_ ?_
                  rotate_left
                  · (intro w hSw; (try dsimp only at hSw); go_simp) <;> with_reducible rfl
                  simp only [Act.put, za, zb, zc, zd, ze, zf]
                  refine tkN 46 rfl ?_
                  simp only [Act.put, za, zb, zc, zd, ze, zf]
                  refine tkN 47 rfl ?_
                  simp only [Act.put, za, zb, zc, zd, ze, zf]
                  refine tkN 48 rfl ?_
                  simp only [Act.put, za, zb, zc, zd, ze, zf]
                  refine tkY 49 (v := ?_) rfl ?_ ?_
                  rotate_left
                  · (intro w hSw; (try dsimp only at hSw); go_simp) <;> with_reducible rfl
                  simp only [Act.put, za, zb, zc, zd, ze, zf]
                  refine tkY 50 (v := ?_) rfl ?_ ?_
                  rotate_left
                  · (intro w hSw; (try dsimp only at hSw); go_simp) <;> with_reducible rfl
                  simp only [Act.put, za, zb, zc, zd, ze, zf]
                  refine tkN 51 rfl ?_
                  simp only [Act.put, za, zb, zc, zd, ze, zf]
                  refine tkN 52 rfl ?_
                  simp only [Act.put, za, zb, zc, zd, ze, zf]
                  refine tkN 53 rfl ?_
                  simp only [Act.put, za, zb, zc, zd, ze, zf]
                  refine tkY 54 (v := ?_) rfl ?_ ?_
                  rotate_left
                  · (intro w hSw; (try dsimp only at hSw); go_simp) <;> with_reducible rfl
                  simp only [Act.put, za, zb, zc, zd, ze, zf]
                  refine tkY 55 (v := ?_) rfl ?_ ?_
                  rotate_left
                  · (intro w hSw; (try dsimp only at hSw); go_simp) <;> with_reducible rfl
                  simp only [Act.put, za, zb, zc, zd, ze, zf]
                  refine tkN 56 rfl ?_
                  simp only [Act.put, za, zb, zc, zd, ze, zf]
                  refine tkN 57 rfl ?_
                  simp only [Act.put, za, zb, zc, zd, ze, zf]
                  refine tkN 58 rfl ?_
                  simp only [Act.put, za, zb, zc, zd, ze, zf]
                  refine tkN 59 rfl ?_
                  simp only [Act.put, za, zb, zc, zd, ze, zf]
                  refine tkN 60 rfl ?_
                  simp only [Act.put, za, zb, zc, zd, ze, zf]
                  refine tkY 61 (v := ?_) rfl ?_ ?_
                  rotate_left
                  · (intro w hSw; (try dsimp only at hSw); go_simp) <;> with_reducible rfl
                  simp only [Act.put, za, zb, zc, zd, ze, zf]
                  refine tkY 62 (v := ?_) rfl ?_ ?_
                  rotate_left
                  · (intro w hSw; (try dsimp only at hSw); go_simp) <;> with_reducible rfl
                  simp only [Act.put, za, zb, zc, zd, ze, zf]
                  refine tkN 63 rfl ?_
                  simp only [Act.put, za, zb, zc, zd, ze, zf]
                  refine tkN 64 rfl ?_
                  simp only [Act.put, za, zb, zc, zd, ze, zf]
                  refine tkN 65 rfl ?_
                  simp only [Act.put, za, zb, zc, zd, ze, zf]
                  refine tkY 66 (v := ?_) rfl ?_ ?_
                  rotate_left
                  · (intro w hSw; (try dsimp only at hSw); go_simp) <;> with_reducible rfl
                  simp only [Act.put, za, zb, zc, zd, ze, zf]
                  refine tkY 67 (v := ?_) rfl ?_ ?_
                  rotate_left
                  · (intro w hSw; (try dsimp only at hSw); go_simp) <;> with_reducible rfl
                  simp only [Act.put, za, zb, zc, zd, ze, zf]
                  refine tkN 68 rfl ?_
                  simp only [Act.put, za, zb, zc, zd, ze, zf]
                  refine tkN 69 rfl ?_
                  simp only [Act.put, za, zb, zc, zd, ze, zf]
                  refine tkN 70 rfl ?_
                  simp only [Act.put, za, zb, zc, zd, ze, zf]
                  refine tkY 71 (v := ?_) rfl ?_ ?_
                  rotate_left
                  · (intro w hSw; (try dsimp only at hSw); go_simp) <;> with_reducible rfl
                  simp only [Act.put, za, zb, zc, zd, ze, zf]
                  refine wpAnyH_done (by kernel_rfl) ?_ _
                  have hD : D = false := by rw [HD.out]; exact decide_eq_false (by omega)
                  go_wp2_with fail
                  go_meet
                  exact ⟨by rw [hD]; rfl, rfl⟩
                · have t48 : decide (ix < 0) = false := by simpa using q48
                  refine tkY 43 (v := ?_) rfl ?_ ?_
                  rotate_left
                  · (intro w hSw; (try dsimp only at hSw); go_simp) <;> with_reducible rfl
                  simp only [Act.put, za, zb, zc, zd, ze, zf]
                  refine tkY 44 (v := ?_) rfl ?_ ?_
                  rotate_left
                  · (intro w hSw; (try dsimp only at hSw); go_simp) <;> with_reducible rfl
                  simp only [Act.put, za, zb, zc, zd, ze, zf]
                  refine tkY 45 (v := ?_) rfl ?_ ?_
                  rotate_left
                  · (intro w hSw; (try dsimp only at hSw); go_simp) <;> with_reducible rfl
                  simp only [Act.put, za, zb, zc, zd, ze, zf]
                  refine tkY 46 (v := ?_) rfl ?_ ?_
                  rotate_left
                  · (intro w hSw; (try dsimp only at hSw); go_simp) <;> with_reducible rfl
                  simp only [Act.put, za, zb, zc, zd, ze, zf]
                  refine tkY 47 (v := ?_) rfl ?_ ?_
                  rotate_left
                  · (intro w hSw; (try dsimp only at hSw); go_simp) <;> with_reducible rfl
                  simp only [Act.put, za, zb, zc, zd, ze, zf]
                  by_cases q53 : 4096 < ix
                  · have t53 : decide (4096 < ix) = true := by simpa using q53
                    refine tkY 48 (v := ?_) rfl ?_ ?_
                    rotate_left
                    · (intro w hSw; (try dsimp only at hSw); go_simp) <;> with_reducible rfl
                    simp only [Act.put, za, zb, zc, zd, ze, zf]
                    refine tkY 49 (v := ?_) rfl ?_ ?_
                    rotate_left
                    · (intro w hSw; (try dsimp only at hSw); go_simp) <;> with_reducible rfl
                    simp only [Act.put, za, zb, zc, zd, ze, zf]
                    refine tkY 50 (v := ?_) rfl ?_ ?_
                    rotate_left
                    · (intro w hSw; (try dsimp only at hSw); go_simp) <;> with_reducible rfl
                    simp only [Act.put, za, zb, zc, zd, ze, zf]
                    refine tkN 51 rfl ?_
                    simp only [Act.put, za, zb, zc, zd, ze, zf]
                    refine tkN 52 rfl ?_
                    simp only [Act.put, za, zb, zc, zd, ze, zf]
                    refine tkN 53 rfl ?_
                    simp only [Act.put, za, zb, zc, zd, ze, zf]
                    refine tkY 54 (v := ?_) rfl ?_ ?_
                    rotate_left
                    · (intro w hSw; (try dsimp only at hSw); go_simp) <;> with_reducible rfl
                    simp only [Act.put, za, zb, zc, zd, ze, zf]
                    refine tkY 55 (v := ?_) rfl ?_ ?_
                    rotate_left
                    · (intro w hSw; (try dsimp only at hSw); go_simp) <;> with_reducible rfl
                    simp only [Act.put, za, zb, zc, zd, ze, zf]
                    refine tkN 56 rfl ?_
                    simp only [Act.put, za, zb, zc, zd, ze, zf]
                    refine tkN 57 rfl ?_
                    simp only [Act.put, za, zb, zc, zd, ze, zf]
                    refine tkN 58 rfl ?_
                    simp only [Act.put, za, zb, zc, zd, ze, zf]
                    refine tkN 59 rfl ?_
                    simp only [Act.put, za, zb, zc, zd, ze, zf]
                    refine tkN 60 rfl ?_
                    simp only [Act.put, za, zb, zc, zd, ze, zf]
                    refine tkY 61 (v := ?_) rfl ?_ ?_
                    rotate_left
                    · (intro w hSw; (try dsimp only at hSw); go_simp) <;> with_reducible rfl
                    simp only [Act.put, za, zb, zc, zd, ze, zf]
                    refine tkY 62 (v := ?_) rfl ?_ ?_
                    rotate_left
                    · (intro w hSw; (try dsimp only at hSw); go_simp) <;> with_reducible rfl
                    simp only [Act.put, za, zb, zc, zd, ze, zf]
                    refine tkN 63 rfl ?_
                    simp only [Act.put, za, zb, zc, zd, ze, zf]
                    refine tkN 64 rfl ?_
                    simp only [Act.put, za, zb, zc, zd, ze, zf]
                    refine tkN 65 rfl ?_
                    simp only [Act.put, za, zb, zc, zd, ze, zf]
                    refine tkY 66 (v := ?_) rfl ?_ ?_
                    rotate_left
                    · (intro w hSw; (try dsimp only at hSw); go_simp) <;> with_reducible rfl
                    simp only [Act.put, za, zb, zc, zd, ze, zf]
                    refine tkY 67 (v := ?_) rfl ?_ ?_
                    rotate_left
                    · (intro w hSw; (try dsimp only at hSw); go_simp) <;> with_reducible rfl
                    simp only [Act.put, za, zb, zc, zd, ze, zf]
                    refine tkN 68 rfl ?_
                    simp only [Act.put, za, zb, zc, zd, ze, zf]
                    refine tkN 69 rfl ?_
                    simp only [Act.put, za, zb, zc, zd, ze, zf]
                    refine tkN 70 rfl ?_
                    simp only [Act.put, za, zb, zc, zd, ze, zf]
                    refine tkY 71 (v := ?_) rfl ?_ ?_
                    rotate_left
                    · (intro w hSw; (try dsimp only at hSw); go_simp) <;> with_reducible rfl
                    simp only [Act.put, za, zb, zc, zd, ze, zf]
                    refine wpAnyH_done (by kernel_rfl) ?_ _
                    have hD : D = false := by rw [HD.out]; exact decide_eq_false (by omega)
                    go_wp2_with fail
                    go_meet
                    exact ⟨by rw [hD]; rfl, rfl⟩
                  · have t53 : decide (4096 < ix) = false := by simpa using q53
                    refine tkY 48 (v := ?_) rfl ?_ ?_
                    rotate_left
                    · (intro w hSw; (try dsimp only at hSw); go_simp) <;> with_reducible rfl
                    simp only [Act.put, za, zb, zc, zd, ze, zf]
                    refine tkY 49 (v := ?_) rfl ?_ ?_
                    rotate_left
                    · (intro w hSw; (try dsimp only at hSw); go_simp) <;> with_reducible rfl
                    simp only [Act.put, za, zb, zc, zd, ze, zf]
                    refine tkY 50 (v := ?_) rfl ?_ ?_
                    rotate_left
                    · (intro w hSw; (try dsimp only at hSw); go_simp) <;> with_reducible rfl
                    simp only [Act.put, za, zb, zc, zd, ze, zf]
                    refine tkY 51 (v := ?_) rfl ?_ ?_
                    rotate_left
                    · (intro w hSw; (try dsimp only at hSw); go_simp) <;> with_reducible rfl
                    simp only [Act.put, za, zb, zc, zd, ze, zf]
                    refine tkY 52 (v := ?_) rfl ?_ ?_
                    rotate_left
                    · (intro w hSw; (try dsimp only at hSw); go_simp) <;> with_reducible rfl
                    simp only [Act.put, za, zb, zc, zd, ze, zf]
                    by_cases q58 : pv < 0
                    · have t58 : decide (pv < 0) = true := by simpa using q58
                      refine tkY 53 (v := ?_) rfl ?_ ?_
                      rotate_left
                      · (intro w hSw; (try dsimp only at hSw); go_simp) <;> with_reducible rfl
                      simp only [Act.put, za, zb, zc, zd, ze, zf]
                      refine tkY 54 (v := ?_) rfl ?_ ?_
                      rotate_left
                      · (intro w hSw; (try dsimp only at hSw); go_simp) <;> with_reducible rfl
                      simp only [Act.put, za, zb, zc, zd, ze, zf]
                      refine tkY 55 (v := ?_) rfl ?_ ?_
                      rotate_left
                      · (intro w hSw; (try dsimp only at hSw); go_simp) <;> with_reducible rfl
                      simp only [Act.put, za, zb, zc, zd, ze, zf]
                      refine tkN 56 rfl ?_
                      simp only [Act.put, za, zb, zc, zd, ze, zf]
                      refine tkN 57 rfl ?_
                      simp only [Act.put, za, zb, zc, zd, ze, zf]
                      refine tkN 58 rfl ?_
                      simp only [Act.put, za, zb, zc, zd, ze, zf]
                      refine tkN 59 rfl ?_
                      simp only [Act.put, za, zb, zc, zd, ze, zf]
                      refine tkN 60 rfl ?_
                      simp only [Act.put, za, zb, zc, zd, ze, zf]
                      refine tkY 61 (v := ?_) rfl ?_ ?_
                      rotate_left
                      · (intro w hSw; (try dsimp only at hSw); go_simp) <;> with_reducible rfl
                      simp only [Act.put, za, zb, zc, zd, ze, zf]
                      refine tkY 62 (v := ?_) rfl ?_ ?_
                      rotate_left
                      · (intro w hSw; (try dsimp only at hSw); go_simp) <;> with_reducible rfl
                      simp only [Act.put, za, zb, zc, zd, ze, zf]
                      refine tkN 63 rfl ?_
                      simp only [Act.put, za, zb, zc, zd, ze, zf]
                      refine tkN 64 rfl ?_
                      simp only [Act.put, za, zb, zc, zd, ze, zf]
                      refine tkN 65 rfl ?_
                      simp only [Act.put, za, zb, zc, zd, ze, zf]
                      refine tkY 66 (v := ?_) rfl ?_ ?_
                      rotate_left
                      · (intro w hSw; (try dsimp only at hSw); go_simp) <;> with_reducible rfl
                      simp only [Act.put, za, zb, zc, zd, ze, zf]
                      refine tkY 67 (v := ?_) rfl ?_ ?_
                      rotate_left
                      · (intro w hSw; (try dsimp only at hSw); go_simp) <;> with_reducible rfl
                      simp only [Act.put, za, zb, zc, zd, ze, zf]
                      refine tkN 68 rfl ?_
                      simp only [Act.put, za, zb, zc, zd, ze, zf]
                      refine tkN 69 rfl ?_
                      simp only [Act.put, za, zb, zc, zd, ze, zf]
                      refine tkN 70 rfl ?_
                      simp only [Act.put, za, zb, zc, zd, ze, zf]
                      refine tkY 71 (v := ?_) rfl ?_ ?_
                      rotate_left
                      · (intro w hSw; (try dsimp only at hSw); go_simp) <;> with_reducible rfl
                      simp only [Act.put, za, zb, zc, zd, ze, zf]
                      refine wpAnyH_done (by kernel_rfl) ?_ _
                      have hD : D = false := by rw [HD.out]; exact decide_eq_false (by omega)
                      go_wp2_with fail
                      go_meet
                      exact ⟨by rw [hD]; rfl, rfl⟩
                    · have t58 : decide (pv < 0) = false := by simpa using q58
                      refine tkY 53 (v := ?_) rfl ?_ ?_
                      rotate_left
                      · (intro w hSw; (try dsimp only at hSw); go_simp) <;> with_reducible rfl
                      simp only [Act.put, za, zb, zc, zd, ze, zf]
                      refine tkY 54 (v := ?_) rfl ?_ ?_
                      rotate_left
                      · (intro w hSw; (try dsimp only at hSw); go_simp) <;> with_reducible rfl
                      simp only [Act.put, za, zb, zc, zd, ze, zf]
                      refine tkY 55 (v := ?_) rfl ?_ ?_
                      rotate_left
                      · (intro w hSw; (try dsimp only at hSw); go_simp) <;> with_reducible rfl
                      simp only [Act.put, za, zb, zc, zd, ze, zf]
                      refine tkY 56 (v := ?_) rfl ?_ ?_
                      rotate_left
                      · (intro w hSw; (try dsimp only at hSw); go_simp) <;> with_reducible rfl
                      simp only [Act.put, za, zb, zc, zd, ze, zf]
                      refine tkY 57 (v := ?_) rfl ?_ ?_
                      rotate_left
                      · (intro w hSw; (try dsimp only at hSw); go_simp) <;> with_reducible rfl
                      simp only [Act.put, za, zb, zc, zd, ze, zf]
                      refine tkY 58 (v := ?_) rfl ?_ ?_
                      rotate_left
                      · (intro w hSw; (try dsimp only at hSw); go_simp) <;> with_reducible rfl
                      simp only [Act.put, za, zb, zc, zd, ze, zf]
                      refine tkY 59 (v := ?_) rfl ?_ ?_
                      rotate_left
                      · (intro w hSw; (try dsimp only at hSw); go_simp) <;> with_reducible rfl
                      simp only [Act.put, za, zb, zc, zd, ze, zf]
                      by_cases q65 : mt < pv
                      · have t65 : decide (mt < pv) = true := by simpa using q65
                        refine tkY 60 (v := ?_) rfl ?_ ?_
                        rotate_left
                        · (intro w hSw; (try dsimp only at hSw); go_simp) <;> with_reducible rfl
                        simp only [Act.put, za, zb, zc, zd, ze, zf]
                        refine tkY 61 (v := ?_) rfl ?_ ?_
                        rotate_left
                        · (intro w hSw; (try dsimp only at hSw); go_simp) <;> with_reducible rfl
                        simp only [Act.put, za, zb, zc, zd, ze, zf]
                        refine tkY 62 (v := ?_) rfl ?_ ?_
                        rotate_left
                        · (intro w hSw; (try dsimp only at hSw); go_simp) <;> with_reducible rfl
                        simp only [Act.put, za, zb, zc, zd, ze, zf]
                        refine tkN 63 rfl ?_
                        simp only [Act.put, za, zb, zc, zd, ze, zf]
                        refine tkN 64 rfl ?_
                        simp only [Act.put, za, zb, zc, zd, ze, zf]
                        refine tkN 65 rfl ?_
                        simp only [Act.put, za, zb, zc, zd, ze, zf]
                        refine tkY 66 (v := ?_) rfl ?_ ?_
                        rotate_left
                        · (intro w hSw; (try dsimp only at hSw); go_simp) <;> with_reducible rfl
                        simp only [Act.put, za, zb, zc, zd, ze, zf]
                        refine tkY 67 (v := ?_) rfl ?_ ?_
                        rotate_left
                        · (intro w hSw; (try dsimp only at hSw); go_simp) <;> with_reducible rfl
                        simp only [Act.put, za, zb, zc, zd, ze, zf]
                        refine tkN 68 rfl ?_
                        simp only [Act.put, za, zb, zc, zd, ze, zf]
                        refine tkN 69 rfl ?_
                        simp only [Act.put, za, zb, zc, zd, ze, zf]
                        refine tkN 70 rfl ?_
                        simp only [Act.put, za, zb, zc, zd, ze, zf]
                        refine tkY 71 (v := ?_) rfl ?_ ?_
                        rotate_left
                        · (intro w hSw; (try dsimp only at hSw); go_simp) <;> with_reducible rfl
                        simp only [Act.put, za, zb, zc, zd, ze, zf]
                        refine wpAnyH_done (by kernel_rfl) ?_ _
                        have hD : D = false := by rw [HD.out]; exact decide_eq_false (by omega)
                        go_wp2_with fail
                        go_meet
                        exact ⟨by rw [hD]; rfl, rfl⟩
                      · have t65 : decide (mt < pv) = false := by simpa using q65
                        refine tkY 60 (v := ?_) rfl ?_ ?_
                        rotate_left
                        · (intro w hSw; (try dsimp only at hSw); go_simp) <;> with_reducible rfl
                        simp only [Act.put, za, zb, zc, zd, ze, zf]
                        refine tkY 61 (v := ?_) rfl ?_ ?_
                        rotate_left
                        · (intro w hSw; (try dsimp only at hSw); go_simp) <;> with_reducible rfl
                        simp only [Act.put, za, zb, zc, zd, ze, zf]
                        refine tkY 62 (v := ?_) rfl ?_ ?_
                        rotate_left
                        · (intro w hSw; (try dsimp only at hSw); go_simp) <;> with_reducible rfl
                        simp only [Act.put, za, zb, zc, zd, ze, zf]
                        refine tkY 63 (v := ?_) rfl ?_ ?_
                        rotate_left
                        · (intro w hSw; (try dsimp only at hSw); go_simp) <;> with_reducible rfl
                        simp only [Act.put, za, zb, zc, zd, ze, zf]
                        refine tkY 64 (v := ?_) rfl ?_ ?_
                        rotate_left
                        · (intro w hSw; (try dsimp only at hSw); go_simp) <;> with_reducible rfl
                        simp only [Act.put, za, zb, zc, zd, ze, zf]
                        by_cases q70 : cm < 0
                        · have t70 : decide (cm < 0) = true := by simpa using q70
                          refine tkY 65 (v := ?_) rfl ?_ ?_
                          rotate_left
                          · (intro w hSw; (try dsimp only at hSw); go_simp) <;> with_reducible rfl
                          simp only [Act.put, za, zb, zc, zd, ze, zf]
                          refine tkY 66 (v := ?_) rfl ?_ ?_
                          rotate_left
                          · (intro w hSw; (try dsimp only at hSw); go_simp) <;> with_reducible rfl
                          simp only [Act.put, za, zb, zc, zd, ze, zf]
                          refine tkY 67 (v := ?_) rfl ?_ ?_
                          rotate_left
                          · (intro w hSw; (try dsimp only at hSw); go_simp) <;> with_reducible rfl
                          simp only [Act.put, za, zb, zc, zd, ze, zf]
                          refine tkN 68 rfl ?_
                          simp only [Act.put, za, zb, zc, zd, ze, zf]
                          refine tkN 69 rfl ?_
                          simp only [Act.put, za, zb, zc, zd, ze, zf]
                          refine tkN 70 rfl ?_
                          simp only [Act.put, za, zb, zc, zd, ze, zf]
                          refine tkY 71 (v := ?_) rfl ?_ ?_
                          rotate_left
                          · (intro w hSw; (try dsimp only at hSw); go_simp) <;> with_reducible rfl
                          simp only [Act.put, za, zb, zc, zd, ze, zf]
                          refine wpAnyH_done (by kernel_rfl) ?_ _
                          have hD : D = false := by rw [HD.out]; exact decide_eq_false (by omega)
                          go_wp2_with fail
                          go_meet
                          exact ⟨by rw [hD]; rfl, rfl⟩
                        · have t70 : decide (cm < 0) = false := by simpa using q70
                          refine tkY 65 (v := ?_) rfl ?_ ?_
                          rotate_left
                          · (intro w hSw; (try dsimp only at hSw); go_simp) <;> with_reducible rfl
                          simp only [Act.put, za, zb, zc, zd, ze, zf]
                          refine tkY 66 (v := ?_) rfl ?_ ?_
                          rotate_left
                          · (intro w hSw; (try dsimp only at hSw); go_simp) <;> with_reducible rfl
                          simp only [Act.put, za, zb, zc, zd, ze, zf]
                          refine tkY 67 (v := ?_) rfl ?_ ?_
                          rotate_left
                          · (intro w hSw; (try dsimp only at hSw); go_simp) <;> with_reducible rfl
                          simp only [Act.put, za, zb, zc, zd, ze, zf]
                          refine tkY 68 (v := ?_) rfl ?_ ?_
                          rotate_left
                          · (intro w hSw; (try dsimp only at hSw); go_simp) <;> with_reducible rfl
                          simp only [Act.put, za, zb, zc, zd, ze, zf]
                          refine tkY 69 (v := ?_) rfl ?_ ?_
                          rotate_left
                          · (intro w hSw; (try dsimp only at hSw); go_simp) <;> with_reducible rfl
                          simp only [Act.put, za, zb, zc, zd, ze, zf]
                          by_cases q75 : 4096 < cm
                          · have t75 : decide (4096 < cm) = true := by simpa using q75
                            refine tkY 70 (v := ?_) rfl ?_ ?_
                            rotate_left
                            · (intro w hSw; (try dsimp only at hSw); go_simp) <;> with_reducible rfl
                            simp only [Act.put, za, zb, zc, zd, ze, zf]
                            refine tkY 71 (v := ?_) rfl ?_ ?_
                            rotate_left
                            · (intro w hSw; (try dsimp only at hSw); go_simp) <;> with_reducible rfl
                            simp only [Act.put, za, zb, zc, zd, ze, zf]
                            refine wpAnyH_done (by kernel_rfl) ?_ _
                            have hD : D = false := by rw [HD.out]; exact decide_eq_false (by omega)
                            go_wp2_with fail
                            go_meet
                            exact ⟨by rw [hD]; rfl, rfl⟩
                          · have t75 : decide (4096 < cm) = false := by simpa using q75
                            refine tkY 70 (v := ?_) rfl ?_ ?_
                            rotate_left
                            · (intro w hSw; (try dsimp only at hSw); go_simp) <;> with_reducible rfl
                            simp only [Act.put, za, zb, zc, zd, ze, zf]
                            refine tkY 71 (v := ?_) rfl ?_ ?_
                            rotate_left
                            · (intro w hSw; (try dsimp only at hSw); go_simp) <;> with_reducible rfl
                            simp only [Act.put, za, zb, zc, zd, ze, zf]
                            refine wpAnyH_done (by kernel_rfl) ?_ _
                            have hD : D = true := by rw [HD.out]; exact decide_eq_true (by omega)
                            go_wp2_with fail
                            go_meet
                            exact ⟨by rw [hD]; rfl, rfl⟩
  case rest =>
    obtain ⟨rfl, rfl⟩ := hcut
    obtain ⟨d0, d1, d2, d3, d4, d5, d6, d7, d8⟩ : W0.drew.cell? ⟨g, 0, none⟩ = some (.int .i64 kd) ∧ W0.drew.cell? ⟨g, 1, none⟩ = some (.int .i64 mf) ∧ W0.drew.cell? ⟨g, 2, none⟩ = some (.int .i64 mto) ∧ W0.drew.cell? ⟨g, 3, none⟩ = some (.int .i64 mt) ∧ W0.drew.cell? ⟨g, 4, none⟩ = some (.int .i64 ix) ∧ W0.drew.cell? ⟨g, 5, none⟩ = some (.int .i64 pv) ∧ W0.drew.cell? ⟨g, 6, none⟩ = some (.int .i64 cm) ∧ W0.drew.cell? ⟨g, 7, none⟩ = some (.bool ok) ∧ W0.drew.cell? ⟨g, 8, none⟩ = some (.slice A es.length c) := ⟨c0, c1, c2, c3, c4, c5, c6, c7, c8⟩
    clear c0 c1 c2 c3 c4 c5 c6 c7 c8 p1 p2
    have HY := Lib.hid hY
    clear hY
    cases D
    · go_wp2_with fail
      go_ret
      exact ⟨ret_bool (by rw [HY.out, Bool.false_and]), HF0.out.drew⟩
    · obtain ⟨i0, i1, i2⟩ := HDT.out rfl
      by_cases k1 : kd = 1
      · subst k1
        go_wp2_with fail
        go_ret
        exact ⟨ret_bool (by rw [HY.out]; simp), HF0.out.drew⟩
      have u1 : (kd == 1) = false := by simpa using k1
      by_cases k2 : kd = 2
      · subst k2
        go_wp2_with fail
        go_ret
        exact ⟨ret_bool (by rw [HY.out]; simp), HF0.out.drew⟩
      have u2 : (kd == 2) = false := by simpa using k2
      by_cases k4 : kd = 4
      · subst k4
        go_wp2_with fail
        go_ret
        exact ⟨ret_bool (by rw [HY.out]; simp), HF0.out.drew⟩
      have u4 : (kd == 4) = false := by simpa using k4
      by_cases k3 : kd = 3
      · subst k3
        have hA2 := HA.out W0.drew HF0.out.drew i0 i1 i2
        clear HA k1 k2 k4
        have HA2 := Lib.hid hA2
        clear hA2
        go_wp2_with fail
        refine HA2.out.mono ?_
        rintro e w5 ⟨rfl, f5⟩
        have F5 := Lib.hid f5
        clear f5
        go_wp2_with fail
        go_ret
        exact ⟨ret_bool (by rw [HY.out]; simp), HF0.out.drew.transNo F5.out⟩
      have u3 : (kd == 3) = false := by simpa using k3
      have hn : (decide (kd = 1 ∨ kd = 2 ∨ kd = 4) || (decide (kd = 3) && PA)) = false := by simp; omega
      have HN := Lib.hid hn
      clear hn
      clear k1 k2 k3 k4
      go_wp2_with fail
      go_ret
      exact ⟨ret_bool (by rw [HY.out, HN.out]; rfl), HF0.out.drew⟩
end
end Go.Proofs.Ytokblidfekbeeaa
