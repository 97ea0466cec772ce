/-
  The walk of EntryValidShape.
-/
import Derived.Test.YtanhbebikcoliaaDoorEl
namespace Go.Proofs.YtanhbebikcoliaaDoor
open Go.ChangeShapes Go.WideShapes Go.ChangeAt Go.RowKit
set_option linter.unusedVariables false
set_option maxRecDepth 100000 in
set_option maxHeartbeats 4000000 in
theorem EntryValidShape_walk (A : Option Addr) (n cp : Nat) (z0 : List Int) (v1 : Value) (a2 a3 : Int) (w : World) (w0 : IsRow .i64 w A n cp z0) (w1 : In_ent w v1) (_w2 : (Lit.int .i64 a2).wf = true) (_w3 : (Lit.int .i64 a3).wf = true) (_s0 : cp * 8 ≤ 140737488351232) (hT : TabN w) :
    Calls Tryd.prog 5 #[.slice A n cp, v1, .int .i64 a2, .int .i64 a3] w fun e w' => e = .returned (.bool true) ∧ Below w.heap.size w w' := by
  have hl := w0.lsIn
  clear w0 _w2 _w3 _s0 z0
  obtain ⟨a, oa, rfl⟩ := w1
  have hVa := fun (c : Cf) V (hc : CfB c) => valid_any (w := V) (c := c) a hc.1 hc.2.1 hc.2.2.1 hc.2.2.2
  have hSa := fun V => shape_any a V
  have hba : ∀ c : Cf, ∃ b : Bool, (shapeB a && fitsB a c.nt c.nc c.rg c.nv) = b ∧ (b = true → shapeB a = true) := fun c => ⟨_, rfl, by intro h; rw [Bool.and_eq_true] at h; exact h.1⟩
  revert hVa hSa hba
  generalize shapeB a = pa
  intro hVa hSa hba
  obtain ⟨akd, aet, atn, acl, aot, aep, afm, aun, an⟩ := a
  unfold En.v at *
  go_enter Tryd.func5, Tryd.ntmps5
  go_wp2_with fail
  refine (light_any A n cp _).mono ?_
  rintro e w1 ⟨rfl, rfl⟩
  by_cases hn : (n : Int) ≤ 200
  · rw [decide_eq_true hn]
    have hn' : n ≤ 200 := by omega
    obtain ⟨w1, hw1⟩ : ∃ w1, w1 = w.alloc (.cells #[.int .i64 akd, .int .i64 aet, .int .i64 atn, .int .i64 acl, .int .i64 aot, .int .i64 aep, .int .i64 afm, .int .i64 aun, .int .i64 an] TEnt) := ⟨_, rfl⟩
    obtain ⟨g1, hg1⟩ : ∃ g1, g1 = w.heap.size := ⟨_, rfl⟩
    have f1 : Fr No w w1 := by rw [hw1]; exact fr_alloc _ _
    have hb1 : Blk w1 g1 TEnt #[.int .i64 akd, .int .i64 aet, .int .i64 atn, .int .i64 acl, .int .i64 aot, .int .i64 aep, .int .i64 afm, .int .i64 aun, .int .i64 an] := by rw [hw1, hg1]; exact Blk.new _ _ _
    rw [← hw1, ← hg1]
    have hmd := made_any (cp := cp) (hl.fr f1) hn'
    clear hw1 hg1
    have HVA := Lib.hid hVa
    have HSA := Lib.hid hSa
    have HBA := Lib.hid hba
    have HMD := Lib.hid hmd
    have HT := Lib.hid hT
    clear hVa hSa hba hmd hT
    go_wp2_with fail
    refine HMD.out.mono ?_
    rintro r w2 ⟨c, en, rfl, hc, oe, f2⟩
    have hcb : CfB c := ⟨hc.nt2, hc.nc2, hc.rg2, hc.nv2⟩
    have hsp := fun V => spoilt_any en a2 a3 V
    obtain ⟨x, hx⟩ : ∃ x, x = spoilN en (a2 % 9) a3 := ⟨_, rfl⟩
    rw [← hx] at hsp
    clear hx
    have hva := fun V => HVA.out c V hcb
    obtain ⟨ba, hba1, hba2⟩ := HBA.out c
    rw [hba1] at hva
    have hve := fun V => valid_any (w := V) (c := c) en hcb.1 hcb.2.1 hcb.2.2.1 hcb.2.2.2
    have hvx := fun V => valid_any (w := V) (c := c) x hcb.1 hcb.2.1 hcb.2.2.1 hcb.2.2.2
    have hse := fun V => shape_any en V
    have hsx := fun V => shape_any x V
    obtain ⟨be, hbe1, hbe2⟩ : ∃ b : Bool, (shapeB en && fitsB en c.nt c.nc c.rg c.nv) = b ∧ (b = true → shapeB en = true) := ⟨_, rfl, by intro h; rw [Bool.and_eq_true] at h; exact h.1⟩
    obtain ⟨bx, hbx1, hbx2⟩ : ∃ b : Bool, (shapeB x && fitsB x c.nt c.nc c.rg c.nv) = b ∧ (b = true → shapeB x = true) := ⟨_, rfl, by intro h; rw [Bool.and_eq_true] at h; exact h.1⟩
    rw [hbe1] at hve
    rw [hbx1] at hvx
    revert hbe2 hbx2 hse hsx
    clear hbe1 hbx1 hba1 HVA HBA hcb hc oe
    generalize shapeB en = pe
    generalize shapeB x = px
    intro hse hsx hbe2 hbx2
    obtain ⟨rg, nz, nc, nt, nv, le, bk, bz, bc, bv, cz, cc, ct, cv, At, Ar, nr, cr, Ao, no_, co, bl⟩ := c
    obtain ⟨ekd, eet, etn, ecl, eot, eep, efm, eun, en⟩ := en
    obtain ⟨xkd, xet, xtn, xcl, xot, xep, xfm, xun, xn⟩ := x
    unfold En.v at *
    have HSP := Lib.hid hsp
    have HVA := Lib.hid hva
    have HVE := Lib.hid hve
    have HVX := Lib.hid hvx
    have HSE := Lib.hid hse
    have HSX := Lib.hid hsx
    clear hsp hva hve hvx hse hsx
    go_wp2_with fail
    obtain ⟨w3, hw3⟩ : ∃ w3, w3 = (w2.alloc (.cells #[.int .i64 (rg : Int), .slice (some ⟨bz, 0, none⟩) nz cz, .slice (some ⟨bc, 0, none⟩) nc cc, .slice At nt ct, .slice (some ⟨bv, 0, none⟩) nv cv, .slice Ar nr cr, .slice Ao no_ co, .int .i64 bl, .int .i64 (le : Int), .int .i64 (bk : Int)] TCf)).alloc (.cells #[.int .i64 ekd, .int .i64 eet, .int .i64 etn, .int .i64 ecl, .int .i64 eot, .int .i64 eep, .int .i64 efm, .int .i64 eun, .int .i64 en] TEnt) := ⟨_, rfl⟩
    obtain ⟨g2, hg2⟩ : ∃ g2, g2 = w2.heap.size := ⟨_, rfl⟩
    obtain ⟨g3, hg3⟩ : ∃ g3, g3 = w2.heap.size + 1 := ⟨_, rfl⟩
    have f3 : Fr No w2 w3 := by rw [hw3]; exact ((Fr.refl No w2).alloc _).alloc _
    have hb2 : Blk w3 g2 TCf #[.int .i64 (rg : Int), .slice (some ⟨bz, 0, none⟩) nz cz, .slice (some ⟨bc, 0, none⟩) nc cc, .slice At nt ct, .slice (some ⟨bv, 0, none⟩) nv cv, .slice Ar nr cr, .slice Ao no_ co, .int .i64 bl, .int .i64 (le : Int), .int .i64 (bk : Int)] := by rw [hw3, hg2]; exact (Blk.new _ _ _).allocA _
    have hb3 : Blk w3 g3 TEnt #[.int .i64 ekd, .int .i64 eet, .int .i64 etn, .int .i64 ecl, .int .i64 eot, .int .i64 eep, .int .i64 efm, .int .i64 eun, .int .i64 en] := by rw [hw3, hg3]; exact Blk.new' _ _ _ _ (by simp)
    rw [← hw3, ← hg3, ← hg2]
    clear hw3 hg3 hg2
    refine (HSP.out _).mono ?_
    rintro r w4 ⟨rfl, f4⟩
    have f14 := (f2.transNo f3).transNo f4
    have hb1' := hb1.fr f14 (fun h => h)
    have hb2' := hb2.fr f4 (fun h => h)
    have hb3' := hb3.fr f4 (fun h => h)
    have f04 := f1.transNo f14
    clear f1 f2 f3 f4 f14 hb1 hb2 hb3
    replace hb1' := Lib.hid hb1'
    replace hb2' := Lib.hid hb2'
    replace hb3' := Lib.hid hb3'
    replace f04 := Lib.hid f04
    go_wp2_with fail
    obtain ⟨w5, hw5⟩ : ∃ w5, w5 = w4.alloc (.cells #[.int .i64 xkd, .int .i64 xet, .int .i64 xtn, .int .i64 xcl, .int .i64 xot, .int .i64 xep, .int .i64 xfm, .int .i64 xun, .int .i64 xn] TEnt) := ⟨_, rfl⟩
    obtain ⟨g4, hg4⟩ : ∃ g4, g4 = w4.heap.size := ⟨_, rfl⟩
    have f5 : Fr No w4 w5 := by rw [hw5]; exact fr_alloc _ _
    have k4 : Blk w5 g4 TEnt #[.int .i64 xkd, .int .i64 xet, .int .i64 xtn, .int .i64 xcl, .int .i64 xot, .int .i64 xep, .int .i64 xfm, .int .i64 xun, .int .i64 xn] := by rw [hw5, hg4]; exact Blk.new _ _ _
    rw [← hw5, ← hg4]
    clear hw5 hg4
    have k1 := hb1'.out.fr f5 (fun h => h)
    have k2 := hb2'.out.fr f5 (fun h => h)
    have k3 := hb3'.out.fr f5 (fun h => h)
    have f05 := f04.out.transNo f5
    have hS_ : ∀ V, Fr No w5 V → (V.cell? ⟨g1, 0, none⟩ = some (.int .i64 akd) ∧ V.cell? ⟨g1, 1, none⟩ = some (.int .i64 aet) ∧ V.cell? ⟨g1, 2, none⟩ = some (.int .i64 atn) ∧ V.cell? ⟨g1, 3, none⟩ = some (.int .i64 acl) ∧ V.cell? ⟨g1, 4, none⟩ = some (.int .i64 aot) ∧ V.cell? ⟨g1, 5, none⟩ = some (.int .i64 aep) ∧ V.cell? ⟨g1, 6, none⟩ = some (.int .i64 afm) ∧ V.cell? ⟨g1, 7, none⟩ = some (.int .i64 aun) ∧ V.cell? ⟨g1, 8, none⟩ = some (.int .i64 an)) ∧ (V.cell? ⟨g2, 0, none⟩ = some (.int .i64 (rg : Int)) ∧ V.cell? ⟨g2, 1, none⟩ = some (.slice (some ⟨bz, 0, none⟩) nz cz) ∧ V.cell? ⟨g2, 2, none⟩ = some (.slice (some ⟨bc, 0, none⟩) nc cc) ∧ V.cell? ⟨g2, 3, none⟩ = some (.slice At nt ct) ∧ V.cell? ⟨g2, 4, none⟩ = some (.slice (some ⟨bv, 0, none⟩) nv cv) ∧ V.cell? ⟨g2, 5, none⟩ = some (.slice Ar nr cr) ∧ V.cell? ⟨g2, 6, none⟩ = some (.slice Ao no_ co) ∧ V.cell? ⟨g2, 7, none⟩ = some (.int .i64 bl) ∧ V.cell? ⟨g2, 8, none⟩ = some (.int .i64 (le : Int)) ∧ V.cell? ⟨g2, 9, none⟩ = some (.int .i64 (bk : Int))) ∧ (V.cell? ⟨g3, 0, none⟩ = some (.int .i64 ekd) ∧ V.cell? ⟨g3, 1, none⟩ = some (.int .i64 eet) ∧ V.cell? ⟨g3, 2, none⟩ = some (.int .i64 etn) ∧ V.cell? ⟨g3, 3, none⟩ = some (.int .i64 ecl) ∧ V.cell? ⟨g3, 4, none⟩ = some (.int .i64 eot) ∧ V.cell? ⟨g3, 5, none⟩ = some (.int .i64 eep) ∧ V.cell? ⟨g3, 6, none⟩ = some (.int .i64 efm) ∧ V.cell? ⟨g3, 7, none⟩ = some (.int .i64 eun) ∧ V.cell? ⟨g3, 8, none⟩ = some (.int .i64 en)) ∧ (V.cell? ⟨g4, 0, none⟩ = some (.int .i64 xkd) ∧ V.cell? ⟨g4, 1, none⟩ = some (.int .i64 xet) ∧ V.cell? ⟨g4, 2, none⟩ = some (.int .i64 xtn) ∧ V.cell? ⟨g4, 3, none⟩ = some (.int .i64 xcl) ∧ V.cell? ⟨g4, 4, none⟩ = some (.int .i64 xot) ∧ V.cell? ⟨g4, 5, none⟩ = some (.int .i64 xep) ∧ V.cell? ⟨g4, 6, none⟩ = some (.int .i64 xfm) ∧ V.cell? ⟨g4, 7, none⟩ = some (.int .i64 xun) ∧ V.cell? ⟨g4, 8, none⟩ = some (.int .i64 xn)) := fun V hV => ⟨⟨(k1.fr hV (fun h => h)).cell 0, (k1.fr hV (fun h => h)).cell 1, (k1.fr hV (fun h => h)).cell 2, (k1.fr hV (fun h => h)).cell 3, (k1.fr hV (fun h => h)).cell 4, (k1.fr hV (fun h => h)).cell 5, (k1.fr hV (fun h => h)).cell 6, (k1.fr hV (fun h => h)).cell 7, (k1.fr hV (fun h => h)).cell 8⟩, ⟨(k2.fr hV (fun h => h)).cell 0, (k2.fr hV (fun h => h)).cell 1, (k2.fr hV (fun h => h)).cell 2, (k2.fr hV (fun h => h)).cell 3, (k2.fr hV (fun h => h)).cell 4, (k2.fr hV (fun h => h)).cell 5, (k2.fr hV (fun h => h)).cell 6, (k2.fr hV (fun h => h)).cell 7, (k2.fr hV (fun h => h)).cell 8, (k2.fr hV (fun h => h)).cell 9⟩, ⟨(k3.fr hV (fun h => h)).cell 0, (k3.fr hV (fun h => h)).cell 1, (k3.fr hV (fun h => h)).cell 2, (k3.fr hV (fun h => h)).cell 3, (k3.fr hV (fun h => h)).cell 4, (k3.fr hV (fun h => h)).cell 5, (k3.fr hV (fun h => h)).cell 6, (k3.fr hV (fun h => h)).cell 7, (k3.fr hV (fun h => h)).cell 8⟩, ⟨(k4.fr hV (fun h => h)).cell 0, (k4.fr hV (fun h => h)).cell 1, (k4.fr hV (fun h => h)).cell 2, (k4.fr hV (fun h => h)).cell 3, (k4.fr hV (fun h => h)).cell 4, (k4.fr hV (fun h => h)).cell 5, (k4.fr hV (fun h => h)).cell 6, (k4.fr hV (fun h => h)).cell 7, (k4.fr hV (fun h => h)).cell 8⟩⟩
    clear k1 k2 k3 k4 hb1' hb2' hb3' f5 f04
    refine (awake6_any _ (HT.out.frNo f05)).mono ?_
    have HS_ := Lib.hid hS_
    have F05 := Lib.hid f05
    clear hS_ f05
    rintro r v ⟨rfl, fv⟩
    obtain ⟨⟨q0, q1, q2, q3, q4, q5, q6, q7, q8⟩, ⟨c0, c1, c2, c3, c4, c5, c6, c7, c8, c9⟩, ⟨e0, e1, e2, e3, e4, e5, e6, e7, e8⟩, ⟨x0, x1, x2, x3, x4, x5, x6, x7, x8⟩⟩ := HS_.out _ fv
    go_wp2_with fail
    refine (HVA.out _).mono ?_
    rintro r v0 ⟨rfl, fw⟩
    replace fv := fv.transNo fw
    clear fw
    obtain ⟨⟨q0, q1, q2, q3, q4, q5, q6, q7, q8⟩, ⟨c0, c1, c2, c3, c4, c5, c6, c7, c8, c9⟩, ⟨e0, e1, e2, e3, e4, e5, e6, e7, e8⟩, ⟨x0, x1, x2, x3, x4, x5, x6, x7, x8⟩⟩ := HS_.out _ fv
    rcases ba with _ | _
    · skip
      obtain ⟨⟨q0, q1, q2, q3, q4, q5, q6, q7, q8⟩, ⟨c0, c1, c2, c3, c4, c5, c6, c7, c8, c9⟩, ⟨e0, e1, e2, e3, e4, e5, e6, e7, e8⟩, ⟨x0, x1, x2, x3, x4, x5, x6, x7, x8⟩⟩ := HS_.out _ fv
      go_wp2_with fail
      refine (HVE.out _).mono ?_
      rintro r v1 ⟨rfl, fw⟩
      replace fv := fv.transNo fw
      clear fw
      obtain ⟨⟨q0, q1, q2, q3, q4, q5, q6, q7, q8⟩, ⟨c0, c1, c2, c3, c4, c5, c6, c7, c8, c9⟩, ⟨e0, e1, e2, e3, e4, e5, e6, e7, e8⟩, ⟨x0, x1, x2, x3, x4, x5, x6, x7, x8⟩⟩ := HS_.out _ fv
      rcases be with _ | _
      · skip
        obtain ⟨⟨q0, q1, q2, q3, q4, q5, q6, q7, q8⟩, ⟨c0, c1, c2, c3, c4, c5, c6, c7, c8, c9⟩, ⟨e0, e1, e2, e3, e4, e5, e6, e7, e8⟩, ⟨x0, x1, x2, x3, x4, x5, x6, x7, x8⟩⟩ := HS_.out _ fv
        go_wp2_with fail
        refine (HVX.out _).mono ?_
        rintro r v2 ⟨rfl, fw⟩
        replace fv := fv.transNo fw
        clear fw
        obtain ⟨⟨q0, q1, q2, q3, q4, q5, q6, q7, q8⟩, ⟨c0, c1, c2, c3, c4, c5, c6, c7, c8, c9⟩, ⟨e0, e1, e2, e3, e4, e5, e6, e7, e8⟩, ⟨x0, x1, x2, x3, x4, x5, x6, x7, x8⟩⟩ := HS_.out _ fv
        rcases bx with _ | _
        · skip
          go_wp2_with fail
          go_ret
          exact ⟨ret_bool rfl, (F05.out.transNo fv).belowNo⟩
        · have hq := hbx2 rfl
          subst hq
          go_wp2_with fail
          refine (HSX.out _).mono ?_
          rintro r u2 ⟨rfl, fw⟩
          replace fv := fv.transNo fw
          clear fw
          go_wp2_with fail
          go_ret
          exact ⟨ret_bool rfl, (F05.out.transNo fv).belowNo⟩
      · have hq := hbe2 rfl
        subst hq
        go_wp2_with fail
        refine (HSE.out _).mono ?_
        rintro r u1 ⟨rfl, fw⟩
        replace fv := fv.transNo fw
        clear fw
        obtain ⟨⟨q0, q1, q2, q3, q4, q5, q6, q7, q8⟩, ⟨c0, c1, c2, c3, c4, c5, c6, c7, c8, c9⟩, ⟨e0, e1, e2, e3, e4, e5, e6, e7, e8⟩, ⟨x0, x1, x2, x3, x4, x5, x6, x7, x8⟩⟩ := HS_.out _ fv
        go_wp2_with fail
        refine (HVX.out _).mono ?_
        rintro r v2 ⟨rfl, fw⟩
        replace fv := fv.transNo fw
        clear fw
        obtain ⟨⟨q0, q1, q2, q3, q4, q5, q6, q7, q8⟩, ⟨c0, c1, c2, c3, c4, c5, c6, c7, c8, c9⟩, ⟨e0, e1, e2, e3, e4, e5, e6, e7, e8⟩, ⟨x0, x1, x2, x3, x4, x5, x6, x7, x8⟩⟩ := HS_.out _ fv
        rcases bx with _ | _
        · skip
          go_wp2_with fail
          go_ret
          exact ⟨ret_bool rfl, (F05.out.transNo fv).belowNo⟩
        · have hq := hbx2 rfl
          subst hq
          go_wp2_with fail
          refine (HSX.out _).mono ?_
          rintro r u2 ⟨rfl, fw⟩
          replace fv := fv.transNo fw
          clear fw
          go_wp2_with fail
          go_ret
          exact ⟨ret_bool rfl, (F05.out.transNo fv).belowNo⟩
    · have hq := hba2 rfl
      subst hq
      go_wp2_with fail
      refine (HSA.out _).mono ?_
      rintro r u0 ⟨rfl, fw⟩
      replace fv := fv.transNo fw
      clear fw
      obtain ⟨⟨q0, q1, q2, q3, q4, q5, q6, q7, q8⟩, ⟨c0, c1, c2, c3, c4, c5, c6, c7, c8, c9⟩, ⟨e0, e1, e2, e3, e4, e5, e6, e7, e8⟩, ⟨x0, x1, x2, x3, x4, x5, x6, x7, x8⟩⟩ := HS_.out _ fv
      go_wp2_with fail
      refine (HVE.out _).mono ?_
      rintro r v1 ⟨rfl, fw⟩
      replace fv := fv.transNo fw
      clear fw
      obtain ⟨⟨q0, q1, q2, q3, q4, q5, q6, q7, q8⟩, ⟨c0, c1, c2, c3, c4, c5, c6, c7, c8, c9⟩, ⟨e0, e1, e2, e3, e4, e5, e6, e7, e8⟩, ⟨x0, x1, x2, x3, x4, x5, x6, x7, x8⟩⟩ := HS_.out _ fv
      rcases be with _ | _
      · skip
        obtain ⟨⟨q0, q1, q2, q3, q4, q5, q6, q7, q8⟩, ⟨c0, c1, c2, c3, c4, c5, c6, c7, c8, c9⟩, ⟨e0, e1, e2, e3, e4, e5, e6, e7, e8⟩, ⟨x0, x1, x2, x3, x4, x5, x6, x7, x8⟩⟩ := HS_.out _ fv
        go_wp2_with fail
        refine (HVX.out _).mono ?_
        rintro r v2 ⟨rfl, fw⟩
        replace fv := fv.transNo fw
        clear fw
        obtain ⟨⟨q0, q1, q2, q3, q4, q5, q6, q7, q8⟩, ⟨c0, c1, c2, c3, c4, c5, c6, c7, c8, c9⟩, ⟨e0, e1, e2, e3, e4, e5, e6, e7, e8⟩, ⟨x0, x1, x2, x3, x4, x5, x6, x7, x8⟩⟩ := HS_.out _ fv
        rcases bx with _ | _
        · skip
          go_wp2_with fail
          go_ret
          exact ⟨ret_bool rfl, (F05.out.transNo fv).belowNo⟩
        · have hq := hbx2 rfl
          subst hq
          go_wp2_with fail
          refine (HSX.out _).mono ?_
          rintro r u2 ⟨rfl, fw⟩
          replace fv := fv.transNo fw
          clear fw
          go_wp2_with fail
          go_ret
          exact ⟨ret_bool rfl, (F05.out.transNo fv).belowNo⟩
      · have hq := hbe2 rfl
        subst hq
        go_wp2_with fail
        refine (HSE.out _).mono ?_
        rintro r u1 ⟨rfl, fw⟩
        replace fv := fv.transNo fw
        clear fw
        obtain ⟨⟨q0, q1, q2, q3, q4, q5, q6, q7, q8⟩, ⟨c0, c1, c2, c3, c4, c5, c6, c7, c8, c9⟩, ⟨e0, e1, e2, e3, e4, e5, e6, e7, e8⟩, ⟨x0, x1, x2, x3, x4, x5, x6, x7, x8⟩⟩ := HS_.out _ fv
        go_wp2_with fail
        refine (HVX.out _).mono ?_
        rintro r v2 ⟨rfl, fw⟩
        replace fv := fv.transNo fw
        clear fw
        obtain ⟨⟨q0, q1, q2, q3, q4, q5, q6, q7, q8⟩, ⟨c0, c1, c2, c3, c4, c5, c6, c7, c8, c9⟩, ⟨e0, e1, e2, e3, e4, e5, e6, e7, e8⟩, ⟨x0, x1, x2, x3, x4, x5, x6, x7, x8⟩⟩ := HS_.out _ fv
        rcases bx with _ | _
        · skip
          go_wp2_with fail
          go_ret
          exact ⟨ret_bool rfl, (F05.out.transNo fv).belowNo⟩
        · have hq := hbx2 rfl
          subst hq
          go_wp2_with fail
          refine (HSX.out _).mono ?_
          rintro r u2 ⟨rfl, fw⟩
          replace fv := fv.transNo fw
          clear fw
          go_wp2_with fail
          go_ret
          exact ⟨ret_bool rfl, (F05.out.transNo fv).belowNo⟩
  · rw [decide_eq_false hn]
    go_wp2_with fail
    refine (awake6_any _ (hT.frNo ((Fr.refl No w).alloc _))).mono ?_
    rintro e w5 ⟨rfl, f5⟩
    go_wp2_with fail
    go_ret
    exact ⟨ret_bool rfl, (((Fr.refl No w).alloc _).transNo f5).belowNo⟩
end Go.Proofs.YtanhbebikcoliaaDoor
