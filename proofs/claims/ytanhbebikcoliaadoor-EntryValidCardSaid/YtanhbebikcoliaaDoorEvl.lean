/-
  The walk of EntryValid.
-/
import Derived.Test.YtanhbebikcoliaaDoorEm2
namespace Go.Proofs.YtanhbebikcoliaaDoor
open Go.ChangeShapes Go.WideShapes Go.ChangeAt Go.RowKit
set_option linter.unusedVariables false
set_option maxRecDepth 100000 in
set_option maxHeartbeats 1500000 in
theorem EntryValid_walk (A : Option Addr) (n cp : Nat) (z0 : List Int) (v1 : Value) (a2 a3 : Int) (w : World) (w0 : IsRow .i64 w A n cp z0) (w1 : In_ent w v1) (_w2 : (Lit.int .i64 a2).wf = true) (_w3 : (Lit.int .i64 a3).wf = true) (_s0 : cp * 8 ≤ 140737488351232) (hT : TabN w) :
    Calls Tryd.prog 4 #[.slice A n cp, v1, .int .i64 a2, .int .i64 a3] w fun e w' => e = .returned (.bool true) ∧ Below w.heap.size w w' := by
  have hl := w0.lsIn
  clear w0 _w2 _w3 _s0 z0
  obtain ⟨a, oa, rfl⟩ := w1
  clear oa
  have hbt := fun V => between_any a3 (-2) 10 V (by decide) (by decide) (by decide)
  revert hbt
  generalize (-2 : Int) + a3 % (10 - -2 + 1) = b3
  intro hbt
  have hSa := fun (c : Cf) V (hc : CfB c) => valid_cf (w := V) (c := c) a hc
  have hRa := fun (c : Cf) V (hc : CfB c) => rvalid_any (w := V) (c := c) a hc.1 hc.2.1 hc.2.2.1 hc.2.2.2
  have hfb : ∀ c : Cf, ∃ b : Bool, b = fitsB a c.nt c.nc c.rg c.nv := fun c => ⟨_, rfl⟩
  obtain ⟨akd, aet, atn, acl, aot, aep, afm, aun, an⟩ := a
  unfold En.v at *
  go_enter Tryd.func4, Tryd.ntmps4
  go_wp2_with fail
  refine (light_any A n cp _).mono ?_
  rintro e w1 ⟨rfl, rfl⟩
  by_cases hn : (n : Int) ≤ 200
  · rw [decide_eq_true hn]
    have hn' : n ≤ 200 := by omega
    obtain ⟨w1, hw1⟩ : ∃ w1, w1 = w.alloc (.cells #[.int .i64 akd, .int .i64 aet, .int .i64 atn, .int .i64 acl, .int .i64 aot, .int .i64 aep, .int .i64 afm, .int .i64 aun, .int .i64 an] TEnt) := ⟨_, rfl⟩
    obtain ⟨g1, hg1⟩ : ∃ g1, g1 = w.heap.size := ⟨_, rfl⟩
    have f1 : Fr No w w1 := by rw [hw1]; exact fr_alloc _ _
    have hb1 : Blk w1 g1 TEnt #[.int .i64 akd, .int .i64 aet, .int .i64 atn, .int .i64 acl, .int .i64 aot, .int .i64 aep, .int .i64 afm, .int .i64 aun, .int .i64 an] := by rw [hw1, hg1]; exact Blk.new _ _ _
    rw [← hw1, ← hg1]
    have hmd := made_any (cp := cp) (hl.fr f1) hn'
    clear hw1 hg1
    have HSA := Lib.hid hSa
    have HRA := Lib.hid hRa
    have HMD := Lib.hid hmd
    have HT := Lib.hid hT
    have HBT := Lib.hid hbt
    clear hSa hRa hmd hT hbt
    go_wp2_with fail
    refine HMD.out.mono ?_
    rintro r w2 ⟨c, en, rfl, hc, oe, f2⟩
    have hcb : CfB c := ⟨hc.nt2, hc.nc2, hc.rg2, hc.nv2⟩
    have hsp := fun V => spoilt_any en a2 a3 V
    obtain ⟨x, hx⟩ : ∃ x, x = spoilN en (a2 % 9) a3 := ⟨_, rfl⟩
    rw [← hx] at hsp
    clear hx
    have hsy := fun V => spoilt_any en a2 b3 V
    obtain ⟨y, hy⟩ : ∃ y, y = spoilN en (a2 % 9) b3 := ⟨_, rfl⟩
    rw [← hy] at hsy
    clear hy
    have hsa := fun V => HSA.out c V hcb
    have hra := fun V => HRA.out c V hcb
    have hse := fun V => valid_cf (w := V) (c := c) en hcb
    have hre := fun V => rvalid_any (w := V) (c := c) en hcb.1 hcb.2.1 hcb.2.2.1 hcb.2.2.2
    have hsx := fun V => valid_cf (w := V) (c := c) x hcb
    have hrx := fun V => rvalid_any (w := V) (c := c) x hcb.1 hcb.2.1 hcb.2.2.1 hcb.2.2.2
    have hsw := fun V => valid_cf (w := V) (c := c) y hcb
    have hrw := fun V => rvalid_any (w := V) (c := c) y hcb.1 hcb.2.1 hcb.2.2.1 hcb.2.2.2
    revert hsa hra hse hre hsx hrx hsw hrw
    clear hcb hc oe HSA HRA
    generalize fitsB ⟨akd, aet, atn, acl, aot, aep, afm, aun, an⟩ c.nt c.nc c.rg c.nv = pa
    generalize fitsB en c.nt c.nc c.rg c.nv = pe
    generalize fitsB x c.nt c.nc c.rg c.nv = px
    generalize fitsB y c.nt c.nc c.rg c.nv = py
    intro hsa hra hse hre hsx hrx hsw hrw
    have HSA := Lib.hid hsa
    have HRA := Lib.hid hra
    clear hsa hra
    obtain ⟨rg, nz, nc, nt, nv, le, bk, bz, bc, bv, cz, cc, ct, cv, At, Ar, nr, cr, Ao, no_, co, bl⟩ := c
    obtain ⟨ekd, eet, etn, ecl, eot, eep, efm, eun, en⟩ := en
    obtain ⟨xkd, xet, xtn, xcl, xot, xep, xfm, xun, xn⟩ := x
    obtain ⟨ykd, yet, ytn, ycl, yot, yep, yfm, yun, yn⟩ := y
    unfold En.v at *
    have HSP := Lib.hid hsp
    have HSE := Lib.hid hse
    have HRE := Lib.hid hre
    have HSX := Lib.hid hsx
    have HRX := Lib.hid hrx
    have HSW := Lib.hid hsw
    have HRW := Lib.hid hrw
    have HSY := Lib.hid hsy
    clear hsp hse hre hsx hrx hsw hrw hsy
    go_wp2_with fail
    obtain ⟨w3, hw3⟩ : ∃ w3, w3 = (w2.alloc (.cells #[.int .i64 (rg : Int), .slice (some ⟨bz, 0, none⟩) nz cz, .slice (some ⟨bc, 0, none⟩) nc cc, .slice At nt ct, .slice (some ⟨bv, 0, none⟩) nv cv, .slice Ar nr cr, .slice Ao no_ co, .int .i64 bl, .int .i64 (le : Int), .int .i64 (bk : Int)] TCf)).alloc (.cells #[.int .i64 ekd, .int .i64 eet, .int .i64 etn, .int .i64 ecl, .int .i64 eot, .int .i64 eep, .int .i64 efm, .int .i64 eun, .int .i64 en] TEnt) := ⟨_, rfl⟩
    obtain ⟨g2, hg2⟩ : ∃ g2, g2 = w2.heap.size := ⟨_, rfl⟩
    obtain ⟨g3, hg3⟩ : ∃ g3, g3 = w2.heap.size + 1 := ⟨_, rfl⟩
    have f3 : Fr No w2 w3 := by rw [hw3]; exact ((Fr.refl No w2).alloc _).alloc _
    have hb2 : Blk w3 g2 TCf #[.int .i64 (rg : Int), .slice (some ⟨bz, 0, none⟩) nz cz, .slice (some ⟨bc, 0, none⟩) nc cc, .slice At nt ct, .slice (some ⟨bv, 0, none⟩) nv cv, .slice Ar nr cr, .slice Ao no_ co, .int .i64 bl, .int .i64 (le : Int), .int .i64 (bk : Int)] := by rw [hw3, hg2]; exact (Blk.new _ _ _).allocA _
    have hb3 : Blk w3 g3 TEnt #[.int .i64 ekd, .int .i64 eet, .int .i64 etn, .int .i64 ecl, .int .i64 eot, .int .i64 eep, .int .i64 efm, .int .i64 eun, .int .i64 en] := by rw [hw3, hg3]; exact Blk.new' _ _ _ _ (by simp)
    rw [← hw3, ← hg3, ← hg2]
    clear hw3 hg3 hg2
    refine (HSP.out _).mono ?_
    rintro r w4 ⟨rfl, f4⟩
    have f14 := (f2.transNo f3).transNo f4
    have hb1' := hb1.fr f14 (fun h => h)
    have hb2' := hb2.fr f4 (fun h => h)
    have hb3' := hb3.fr f4 (fun h => h)
    have f04 := f1.transNo f14
    clear f1 f2 f3 f4 f14 hb1 hb2 hb3
    replace hb1' := Lib.hid hb1'
    replace hb2' := Lib.hid hb2'
    replace hb3' := Lib.hid hb3'
    replace f04 := Lib.hid f04
    go_wp2_with fail
    obtain ⟨w5, hw5⟩ : ∃ w5, w5 = w4.alloc (.cells #[.int .i64 xkd, .int .i64 xet, .int .i64 xtn, .int .i64 xcl, .int .i64 xot, .int .i64 xep, .int .i64 xfm, .int .i64 xun, .int .i64 xn] TEnt) := ⟨_, rfl⟩
    obtain ⟨g4, hg4⟩ : ∃ g4, g4 = w4.heap.size := ⟨_, rfl⟩
    have f5 : Fr No w4 w5 := by rw [hw5]; exact fr_alloc _ _
    have k4 : Blk w5 g4 TEnt #[.int .i64 xkd, .int .i64 xet, .int .i64 xtn, .int .i64 xcl, .int .i64 xot, .int .i64 xep, .int .i64 xfm, .int .i64 xun, .int .i64 xn] := by rw [hw5, hg4]; exact Blk.new _ _ _
    rw [← hw5, ← hg4]
    clear hw5 hg4
    have k1 := hb1'.out.fr f5 (fun h => h)
    have k2 := hb2'.out.fr f5 (fun h => h)
    have k3 := hb3'.out.fr f5 (fun h => h)
    have f05 := f04.out.transNo f5
    have he_ : ∀ V, Fr No w5 V → V.cell? ⟨g3, 0, none⟩ = some (.int .i64 ekd) ∧ V.cell? ⟨g3, 1, none⟩ = some (.int .i64 eet) ∧ V.cell? ⟨g3, 2, none⟩ = some (.int .i64 etn) ∧ V.cell? ⟨g3, 3, none⟩ = some (.int .i64 ecl) ∧ V.cell? ⟨g3, 4, none⟩ = some (.int .i64 eot) ∧ V.cell? ⟨g3, 5, none⟩ = some (.int .i64 eep) ∧ V.cell? ⟨g3, 6, none⟩ = some (.int .i64 efm) ∧ V.cell? ⟨g3, 7, none⟩ = some (.int .i64 eun) ∧ V.cell? ⟨g3, 8, none⟩ = some (.int .i64 en) := fun V hV => ⟨(k3.fr hV (fun h => h)).cell 0, (k3.fr hV (fun h => h)).cell 1, (k3.fr hV (fun h => h)).cell 2, (k3.fr hV (fun h => h)).cell 3, (k3.fr hV (fun h => h)).cell 4, (k3.fr hV (fun h => h)).cell 5, (k3.fr hV (fun h => h)).cell 6, (k3.fr hV (fun h => h)).cell 7, (k3.fr hV (fun h => h)).cell 8⟩
    clear hb1' hb2' hb3' f5 f04
    have K1 := Lib.hid k1
    have K2 := Lib.hid k2
    have K3 := Lib.hid k3
    have K4 := Lib.hid k4
    have HE_ := Lib.hid he_
    have F05 := Lib.hid f05
    clear k1 k2 k3 k4 he_ f05
    go_cut [12] from 26 to 30 (fun p wx => YAt w5 ⟨ykd, yet, ytn, ycl, yot, yep, yfm, yun, yn⟩ p wx)
    case first =>
      go_region_held3 (fun V => V.cell? ⟨g3, 0, none⟩ = some (.int .i64 ekd) ∧ V.cell? ⟨g3, 1, none⟩ = some (.int .i64 eet) ∧ V.cell? ⟨g3, 2, none⟩ = some (.int .i64 etn) ∧ V.cell? ⟨g3, 3, none⟩ = some (.int .i64 ecl) ∧ V.cell? ⟨g3, 4, none⟩ = some (.int .i64 eot) ∧ V.cell? ⟨g3, 5, none⟩ = some (.int .i64 eep) ∧ V.cell? ⟨g3, 6, none⟩ = some (.int .i64 efm) ∧ V.cell? ⟨g3, 7, none⟩ = some (.int .i64 eun) ∧ V.cell? ⟨g3, 8, none⟩ = some (.int .i64 en)) (first | (refine HE_.out _ ?_ <;> (with_reducible ((repeat (first | assumption | exact Fr.refl _ _ | refine Fr.alloc ?_ _ | refine Fr.drew ?_ | refine Fr.drewN ?_ _)); done))) | (with_reducible exact HE_.out _ (Q6.transNew (en_fill_fr (q := w5.heap.size) ⟨ykd, yet, ytn, ycl, yot, yep, yfm, yun, yn⟩) (fun i hi => by have hi : i = w5.heap.size := hi; omega))) | (with_reducible exact HE_.out _ Q6))
        (first
          | (go_at_call 12; refine (HBT.out _).mono ?_; rintro r v5 ⟨rfl, rfl⟩)
          | (go_at_call 11; refine (HSY.out _).mono ?_; rintro r v6 ⟨rfl, f6⟩; have Q6 : Fr No w5 v6 := Fr.transNo (by repeat (first | assumption | exact Fr.refl _ _ | refine Fr.alloc ?_ _ | refine Fr.drew ?_ | refine Fr.drewN ?_ _)) f6; first | (have hz9 : Blk v6 w5.heap.size TEnt #[.int .i64 0, .int .i64 0, .int .i64 0, .int .i64 0, .int .i64 0, .int .i64 0, .int .i64 0, .int .i64 0, .int .i64 0] := (by with_reducible exact (Blk.drewn (Blk.new _ _ _)).fr f6 (fun h => h)); obtain ⟨y0, y1, y2, y3, y4, y5, y6, y7, y8⟩ := ent_cells hz9; have p0 := hz9.frozen 0; have p1 := hz9.frozen 1; have p2 := hz9.frozen 2; have p3 := hz9.frozen 3; have p4 := hz9.frozen 4; have p5 := hz9.frozen 5; have p6 := hz9.frozen 6; have p7 := hz9.frozen 7; have p8 := hz9.frozen 8; have HZ9 := Lib.hid hz9; clear hz9 f6) | (have hz9 : Blk v6 w5.heap.size TEnt #[.int .i64 0, .int .i64 0, .int .i64 0, .int .i64 0, .int .i64 0, .int .i64 0, .int .i64 0, .int .i64 0, .int .i64 0] := (by with_reducible exact (Blk.new _ _ _).fr f6 (fun h => h)); obtain ⟨y0, y1, y2, y3, y4, y5, y6, y7, y8⟩ := ent_cells hz9; have p0 := hz9.frozen 0; have p1 := hz9.frozen 1; have p2 := hz9.frozen 2; have p3 := hz9.frozen 3; have p4 := hz9.frozen 4; have p5 := hz9.frozen 5; have p6 := hz9.frozen 6; have p7 := hz9.frozen 7; have p8 := hz9.frozen 8; have HZ9 := Lib.hid hz9; clear hz9 f6) | clear f6))
      all_goals go_wp2_with fail
      all_goals go_meet
      all_goals first
        | with_reducible exact YAt.a ⟨ykd, yet, ytn, ycl, yot, yep, yfm, yun, yn⟩ Q6
        | with_reducible exact YAt.b ⟨ykd, yet, ytn, ycl, yot, yep, yfm, yun, yn⟩ _ HZ9.out (Nat.le_refl _) Q6
        | exact YAt.b ⟨ykd, yet, ytn, ycl, yot, yep, yfm, yun, yn⟩ _ HZ9.out (Nat.le_refl _) Q6
    obtain ⟨g5, rfl, hb5, f6⟩ := hcut
    simp only at hb5
    have k1 := K1.out.fr f6 (fun h => h)
    have k2 := K2.out.fr f6 (fun h => h)
    have k3 := K3.out.fr f6 (fun h => h)
    have k4 := K4.out.fr f6 (fun h => h)
    have k5 := hb5
    have hS_ : ∀ V, Fr No wc V → (V.cell? ⟨g1, 0, none⟩ = some (.int .i64 akd) ∧ V.cell? ⟨g1, 1, none⟩ = some (.int .i64 aet) ∧ V.cell? ⟨g1, 2, none⟩ = some (.int .i64 atn) ∧ V.cell? ⟨g1, 3, none⟩ = some (.int .i64 acl) ∧ V.cell? ⟨g1, 4, none⟩ = some (.int .i64 aot) ∧ V.cell? ⟨g1, 5, none⟩ = some (.int .i64 aep) ∧ V.cell? ⟨g1, 6, none⟩ = some (.int .i64 afm) ∧ V.cell? ⟨g1, 7, none⟩ = some (.int .i64 aun) ∧ V.cell? ⟨g1, 8, none⟩ = some (.int .i64 an)) ∧ (V.cell? ⟨g3, 0, none⟩ = some (.int .i64 ekd) ∧ V.cell? ⟨g3, 1, none⟩ = some (.int .i64 eet) ∧ V.cell? ⟨g3, 2, none⟩ = some (.int .i64 etn) ∧ V.cell? ⟨g3, 3, none⟩ = some (.int .i64 ecl) ∧ V.cell? ⟨g3, 4, none⟩ = some (.int .i64 eot) ∧ V.cell? ⟨g3, 5, none⟩ = some (.int .i64 eep) ∧ V.cell? ⟨g3, 6, none⟩ = some (.int .i64 efm) ∧ V.cell? ⟨g3, 7, none⟩ = some (.int .i64 eun) ∧ V.cell? ⟨g3, 8, none⟩ = some (.int .i64 en)) ∧ (V.cell? ⟨g4, 0, none⟩ = some (.int .i64 xkd) ∧ V.cell? ⟨g4, 1, none⟩ = some (.int .i64 xet) ∧ V.cell? ⟨g4, 2, none⟩ = some (.int .i64 xtn) ∧ V.cell? ⟨g4, 3, none⟩ = some (.int .i64 xcl) ∧ V.cell? ⟨g4, 4, none⟩ = some (.int .i64 xot) ∧ V.cell? ⟨g4, 5, none⟩ = some (.int .i64 xep) ∧ V.cell? ⟨g4, 6, none⟩ = some (.int .i64 xfm) ∧ V.cell? ⟨g4, 7, none⟩ = some (.int .i64 xun) ∧ V.cell? ⟨g4, 8, none⟩ = some (.int .i64 xn)) ∧ (V.cell? ⟨g5, 0, none⟩ = some (.int .i64 ykd) ∧ V.cell? ⟨g5, 1, none⟩ = some (.int .i64 yet) ∧ V.cell? ⟨g5, 2, none⟩ = some (.int .i64 ytn) ∧ V.cell? ⟨g5, 3, none⟩ = some (.int .i64 ycl) ∧ V.cell? ⟨g5, 4, none⟩ = some (.int .i64 yot) ∧ V.cell? ⟨g5, 5, none⟩ = some (.int .i64 yep) ∧ V.cell? ⟨g5, 6, none⟩ = some (.int .i64 yfm) ∧ V.cell? ⟨g5, 7, none⟩ = some (.int .i64 yun) ∧ V.cell? ⟨g5, 8, none⟩ = some (.int .i64 yn)) ∧ (V.cell? ⟨g2, 0, none⟩ = some (.int .i64 (rg : Int)) ∧ V.cell? ⟨g2, 1, none⟩ = some (.slice (some ⟨bz, 0, none⟩) nz cz) ∧ V.cell? ⟨g2, 2, none⟩ = some (.slice (some ⟨bc, 0, none⟩) nc cc) ∧ V.cell? ⟨g2, 3, none⟩ = some (.slice At nt ct) ∧ V.cell? ⟨g2, 4, none⟩ = some (.slice (some ⟨bv, 0, none⟩) nv cv) ∧ V.cell? ⟨g2, 5, none⟩ = some (.slice Ar nr cr) ∧ V.cell? ⟨g2, 6, none⟩ = some (.slice Ao no_ co) ∧ V.cell? ⟨g2, 7, none⟩ = some (.int .i64 bl) ∧ V.cell? ⟨g2, 8, none⟩ = some (.int .i64 (le : Int)) ∧ V.cell? ⟨g2, 9, none⟩ = some (.int .i64 (bk : Int))) := fun V hV => ⟨⟨(k1.fr hV (fun h => h)).cell 0, (k1.fr hV (fun h => h)).cell 1, (k1.fr hV (fun h => h)).cell 2, (k1.fr hV (fun h => h)).cell 3, (k1.fr hV (fun h => h)).cell 4, (k1.fr hV (fun h => h)).cell 5, (k1.fr hV (fun h => h)).cell 6, (k1.fr hV (fun h => h)).cell 7, (k1.fr hV (fun h => h)).cell 8⟩, ⟨(k3.fr hV (fun h => h)).cell 0, (k3.fr hV (fun h => h)).cell 1, (k3.fr hV (fun h => h)).cell 2, (k3.fr hV (fun h => h)).cell 3, (k3.fr hV (fun h => h)).cell 4, (k3.fr hV (fun h => h)).cell 5, (k3.fr hV (fun h => h)).cell 6, (k3.fr hV (fun h => h)).cell 7, (k3.fr hV (fun h => h)).cell 8⟩, ⟨(k4.fr hV (fun h => h)).cell 0, (k4.fr hV (fun h => h)).cell 1, (k4.fr hV (fun h => h)).cell 2, (k4.fr hV (fun h => h)).cell 3, (k4.fr hV (fun h => h)).cell 4, (k4.fr hV (fun h => h)).cell 5, (k4.fr hV (fun h => h)).cell 6, (k4.fr hV (fun h => h)).cell 7, (k4.fr hV (fun h => h)).cell 8⟩, ⟨(k5.fr hV (fun h => h)).cell 0, (k5.fr hV (fun h => h)).cell 1, (k5.fr hV (fun h => h)).cell 2, (k5.fr hV (fun h => h)).cell 3, (k5.fr hV (fun h => h)).cell 4, (k5.fr hV (fun h => h)).cell 5, (k5.fr hV (fun h => h)).cell 6, (k5.fr hV (fun h => h)).cell 7, (k5.fr hV (fun h => h)).cell 8⟩, ⟨(k2.fr hV (fun h => h)).cell 0, (k2.fr hV (fun h => h)).cell 1, (k2.fr hV (fun h => h)).cell 2, (k2.fr hV (fun h => h)).cell 3, (k2.fr hV (fun h => h)).cell 4, (k2.fr hV (fun h => h)).cell 5, (k2.fr hV (fun h => h)).cell 6, (k2.fr hV (fun h => h)).cell 7, (k2.fr hV (fun h => h)).cell 8, (k2.fr hV (fun h => h)).cell 9⟩⟩
    have f06 := F05.out.transNo f6
    clear k1 k2 k3 k4 k5 K1 K2 K3 K4 hb5 f6 F05 HE_
    go_upto_region 6 with fail
    have FF := Lib.hid ((Fr.refl No wc).drew)
    have HT2 := Lib.hid (HT.out.frNo f06)
    clear HT
    have HS_ := Lib.hid hS_
    have F06 := Lib.hid f06
    clear hS_ f06
    go_region_held3 (fun V => (V.cell? ⟨g1, 0, none⟩ = some (.int .i64 akd) ∧ V.cell? ⟨g1, 1, none⟩ = some (.int .i64 aet) ∧ V.cell? ⟨g1, 2, none⟩ = some (.int .i64 atn) ∧ V.cell? ⟨g1, 3, none⟩ = some (.int .i64 acl) ∧ V.cell? ⟨g1, 4, none⟩ = some (.int .i64 aot) ∧ V.cell? ⟨g1, 5, none⟩ = some (.int .i64 aep) ∧ V.cell? ⟨g1, 6, none⟩ = some (.int .i64 afm) ∧ V.cell? ⟨g1, 7, none⟩ = some (.int .i64 aun) ∧ V.cell? ⟨g1, 8, none⟩ = some (.int .i64 an)) ∧ (V.cell? ⟨g3, 0, none⟩ = some (.int .i64 ekd) ∧ V.cell? ⟨g3, 1, none⟩ = some (.int .i64 eet) ∧ V.cell? ⟨g3, 2, none⟩ = some (.int .i64 etn) ∧ V.cell? ⟨g3, 3, none⟩ = some (.int .i64 ecl) ∧ V.cell? ⟨g3, 4, none⟩ = some (.int .i64 eot) ∧ V.cell? ⟨g3, 5, none⟩ = some (.int .i64 eep) ∧ V.cell? ⟨g3, 6, none⟩ = some (.int .i64 efm) ∧ V.cell? ⟨g3, 7, none⟩ = some (.int .i64 eun) ∧ V.cell? ⟨g3, 8, none⟩ = some (.int .i64 en)) ∧ (V.cell? ⟨g4, 0, none⟩ = some (.int .i64 xkd) ∧ V.cell? ⟨g4, 1, none⟩ = some (.int .i64 xet) ∧ V.cell? ⟨g4, 2, none⟩ = some (.int .i64 xtn) ∧ V.cell? ⟨g4, 3, none⟩ = some (.int .i64 xcl) ∧ V.cell? ⟨g4, 4, none⟩ = some (.int .i64 xot) ∧ V.cell? ⟨g4, 5, none⟩ = some (.int .i64 xep) ∧ V.cell? ⟨g4, 6, none⟩ = some (.int .i64 xfm) ∧ V.cell? ⟨g4, 7, none⟩ = some (.int .i64 xun) ∧ V.cell? ⟨g4, 8, none⟩ = some (.int .i64 xn)) ∧ (V.cell? ⟨g5, 0, none⟩ = some (.int .i64 ykd) ∧ V.cell? ⟨g5, 1, none⟩ = some (.int .i64 yet) ∧ V.cell? ⟨g5, 2, none⟩ = some (.int .i64 ytn) ∧ V.cell? ⟨g5, 3, none⟩ = some (.int .i64 ycl) ∧ V.cell? ⟨g5, 4, none⟩ = some (.int .i64 yot) ∧ V.cell? ⟨g5, 5, none⟩ = some (.int .i64 yep) ∧ V.cell? ⟨g5, 6, none⟩ = some (.int .i64 yfm) ∧ V.cell? ⟨g5, 7, none⟩ = some (.int .i64 yun) ∧ V.cell? ⟨g5, 8, none⟩ = some (.int .i64 yn)) ∧ (V.cell? ⟨g2, 0, none⟩ = some (.int .i64 (rg : Int)) ∧ V.cell? ⟨g2, 1, none⟩ = some (.slice (some ⟨bz, 0, none⟩) nz cz) ∧ V.cell? ⟨g2, 2, none⟩ = some (.slice (some ⟨bc, 0, none⟩) nc cc) ∧ V.cell? ⟨g2, 3, none⟩ = some (.slice At nt ct) ∧ V.cell? ⟨g2, 4, none⟩ = some (.slice (some ⟨bv, 0, none⟩) nv cv) ∧ V.cell? ⟨g2, 5, none⟩ = some (.slice Ar nr cr) ∧ V.cell? ⟨g2, 6, none⟩ = some (.slice Ao no_ co) ∧ V.cell? ⟨g2, 7, none⟩ = some (.int .i64 bl) ∧ V.cell? ⟨g2, 8, none⟩ = some (.int .i64 (le : Int)) ∧ V.cell? ⟨g2, 9, none⟩ = some (.int .i64 (bk : Int)))) (with_reducible exact HS_.out _ FF.out) (first
      | (go_at_call 9; refine (awake6_any _ (HT2.out.frNo FF.out)).mono ?_; rintro e v5 ⟨rfl, f5⟩; replace FF := Lib.hid (FF.out.transNo f5); clear f5)
      | (go_at_call 15; (first | with_reducible refine (HSA.out _).mono ?_ | with_reducible refine (HSE.out _).mono ?_ | with_reducible refine (HSX.out _).mono ?_ | with_reducible refine (HSW.out _).mono ?_); rintro e v5 ⟨rfl, f5⟩; replace FF := Lib.hid (FF.out.transNo f5); clear f5)
      | (go_at_call 16; (first | with_reducible refine (HRA.out _).mono ?_ | with_reducible refine (HRE.out _).mono ?_ | with_reducible refine (HRX.out _).mono ?_ | with_reducible refine (HRW.out _).mono ?_); rintro e v5 ⟨rfl, f5⟩; replace FF := Lib.hid (FF.out.transNo f5); clear f5))
    all_goals go_wp2_with fail
    all_goals go_ret
    all_goals exact ⟨ret_bool rfl, (F06.out.transNo FF.out).belowNo⟩
  · rw [decide_eq_false hn]
    go_wp2_with fail
    refine (awake6_any _ (hT.frNo ((Fr.refl No w).alloc _))).mono ?_
    rintro e w5 ⟨rfl, f5⟩
    go_wp2_with fail
    go_ret
    exact ⟨ret_bool rfl, (((Fr.refl No w).alloc _).transNo f5).belowNo⟩
end Go.Proofs.YtanhbebikcoliaaDoor
