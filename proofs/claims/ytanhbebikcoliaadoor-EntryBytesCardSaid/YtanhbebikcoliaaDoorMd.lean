/-
  made.
-/
import Derived.Test.YtanhbebikcoliaaDoorCoB
namespace Go.Proofs.YtanhbebikcoliaaDoor
open Go.ChangeShapes Go.WideShapes Go.ChangeAt Go.RowKit
set_option linter.unusedVariables false
def MadeTo (w : World) (e : Ending) (w' : World) : Prop := ∃ (c : Cf) (en : En), e = .returned (.tuple #[.agg c.arr, .agg (EnArr en)]) ∧ CfOk w' c ∧ EnOk en ∧ Fr No w w'
theorem made_results (v : Cv) (e : En) (g h : Nat) (ts : Array Value) (W : World) (hb : Blk W g TCf v.arr) (he : Blk W h TEm (EnArr e)) (h2 : ts[2]?.getD undef = .pointer (some ⟨g, 0, none⟩)) (h3 : ts[3]?.getD undef = .pointer (some ⟨h, 0, none⟩)) :
    (results Tryd.f10 ts).run Tryd.prog W = .ok (.tuple #[.agg v.arr, .agg (EnArr e)]) W := by
  obtain ⟨c0, c1, c2, c3, c4, c5, c6, c7, c8, c9⟩ := cf_cells hb
  obtain ⟨d0, d1, d2, d3, d4, d5, d6, d7, d8⟩ := en_cells he
  clear hb he
  simp [results, Tryd.results10, go_sem, h2, h3, c0, c1, c2, c3, c4, c5, c6, c7, c8, c9, d0, d1, d2, d3, d4, d5, d6, d7, d8]
set_option maxRecDepth 100000 in
set_option maxHeartbeats 4000000 in
theorem made_any {w : World} {A : Option Addr} {n cp : Nat} (hl : LsIn w A n) (hn : n ≤ 200) : Calls Tryd.prog 10 #[.slice A n cp] w (MadeTo w) := by
  have hcf := fun W (hf : Fr No w W) => config_any (cp := cp) (hl.fr hf) hn
  have hnt := fun W (hf : Fr No w W) => newt_any (cp := cp) (hl.fr hf) hn
  obtain ⟨w1, hw1⟩ : ∃ w1, w1 = w.alloc (.cells #[.int .i64 0, .slice none 0 0, .slice none 0 0, .slice none 0 0, .slice none 0 0, .slice none 0 0, .slice none 0 0, .int .i64 0, .int .i64 0, .int .i64 0] TCf) := ⟨_, rfl⟩
  obtain ⟨g1, hg1⟩ : ∃ g1, g1 = w.heap.size := ⟨_, rfl⟩
  have hb1 : Blk w1 g1 TCf #[.int .i64 0, .slice none 0 0, .slice none 0 0, .slice none 0 0, .slice none 0 0, .slice none 0 0, .slice none 0 0, .int .i64 0, .int .i64 0, .int .i64 0] := by rw [hw1, hg1]; exact Blk.new _ _ _
  have f1 : Fr No w w1 := by rw [hw1]; exact fr_alloc _ _
  have hs1 : w1.heap.size = g1 + 1 := by rw [hw1, hg1]; simp
  obtain ⟨w2, hw2⟩ : ∃ w2, w2 = w1.alloc (.cells (EnArr (⟨0, 0, 0, 0, 0, 0, 0, 0, 0⟩ : En)) TEm) := ⟨_, rfl⟩
  obtain ⟨g2, hg2⟩ : ∃ g2, g2 = w1.heap.size := ⟨_, rfl⟩
  have hb2 : Blk w2 g2 TEm (EnArr (⟨0, 0, 0, 0, 0, 0, 0, 0, 0⟩ : En)) := by rw [hw2, hg2]; exact Blk.new _ _ _
  have f2 : Fr No w1 w2 := by rw [hw2]; exact fr_alloc _ _
  have hs2 : w2.heap.size = g2 + 1 := by rw [hw2, hg2]; simp
  have he2 : g2 = g1 + 1 := by rw [hg2, hs1]
  have hB1 := hb1.fr f2 (fun h => h)
  have fW := f1.transNo f2
  have hW : w2 = (w.alloc (.cells #[.int .i64 0, .slice none 0 0, .slice none 0 0, .slice none 0 0, .slice none 0 0, .slice none 0 0, .slice none 0 0, .int .i64 0, .int .i64 0, .int .i64 0] TCf)).alloc (.cells (EnArr (⟨0, 0, 0, 0, 0, 0, 0, 0, 0⟩ : En)) TEm) := by rw [hw2, hw1]
  clear hw1 hw2 hb1 hs1
  have HCF := Lib.hid hcf
  have HNT := Lib.hid hnt
  have HW := Lib.hid hW
  have HG1 := Lib.hid hg1
  have HG2 := Lib.hid hg2
  have HE2 := Lib.hid he2
  clear hcf hnt hW hg1 hg2 he2
  go_enter Tryd.func10, Tryd.ntmps10
  go_upto_region 1 with fail
  rw [← HW.out]
  try rw [← show g2 = w.heap.size + 1 from by rw [HE2.out, HG1.out]]
  try rw [← HG1.out]
  go_wp2_with fail
  refine (HCF.out _ fW).mono ?_
  rintro r v3 ⟨⟨rg, nz, nc, nt, nv, le, bk, bz, bc, bv, cz, cc, ct, cv, At, Ar, nr, cr, Ao, no_, co, bl⟩, rfl, hok, f3⟩
  go_upto_region 2 with fail
  obtain ⟨w4, hw4⟩ : ∃ w4, w4 = v3.alloc (.cells (Cf.arr ⟨rg, nz, nc, nt, nv, le, bk, bz, bc, bv, cz, cc, ct, cv, At, Ar, nr, cr, Ao, no_, co, bl⟩) TCf) := ⟨_, rfl⟩
  obtain ⟨g4, hg4⟩ : ∃ g4, g4 = v3.heap.size := ⟨_, rfl⟩
  have f4 : Fr No v3 w4 := by rw [hw4]; exact fr_alloc _ _
  have hb4 : Blk w4 g4 TCf (Cf.arr ⟨rg, nz, nc, nt, nv, le, bk, bz, bc, bv, cz, cc, ct, cv, At, Ar, nr, cr, Ao, no_, co, bl⟩) := by rw [hw4, hg4]; exact Blk.new _ _ _
  have hg1l := hB1.lt
  have hg2l := hb2.lt
  have hs3 := f3.size
  have hn41 : ¬ (g4 = g1 ∨ g4 = g2) := by omega
  have hn12 : g1 ≠ g2 := by have := HE2.out; omega
  have f34 := f3.transNo f4
  have f04 := fW.transNo f34
  have hz1 := fun V (hV : Fr No w4 V) => (hB1.fr f34 (fun h => h)).fr hV (fun h => h)
  have hz2 := fun V (hV : Fr No w4 V) => (hb2.fr f34 (fun h => h)).fr hV (fun h => h)
  have hkc := fun V (hV : Fr (fun i => i = g1 ∨ i = g2) w4 V) => (let k := hb4.fr hV hn41; ⟨k.cell 0, k.cell 1, k.cell 2, k.cell 3, k.cell 4, k.cell 5, k.cell 6, k.cell 7, k.cell 8, k.cell 9⟩ : V.cell? ⟨g4, 0, none⟩ = some (.int .i64 (rg : Int)) ∧ V.cell? ⟨g4, 1, none⟩ = some (.slice (some ⟨bz, 0, none⟩) nz cz) ∧ V.cell? ⟨g4, 2, none⟩ = some (.slice (some ⟨bc, 0, none⟩) nc cc) ∧ V.cell? ⟨g4, 3, none⟩ = some (.slice At nt ct) ∧ V.cell? ⟨g4, 4, none⟩ = some (.slice (some ⟨bv, 0, none⟩) nv cv) ∧ V.cell? ⟨g4, 5, none⟩ = some (.slice Ar nr cr) ∧ V.cell? ⟨g4, 6, none⟩ = some (.slice Ao no_ co) ∧ V.cell? ⟨g4, 7, none⟩ = some (.int .i64 bl) ∧ V.cell? ⟨g4, 8, none⟩ = some (.int .i64 (le : Int)) ∧ V.cell? ⟨g4, 9, none⟩ = some (.int .i64 (bk : Int)))
  have hcfg := fun (F : Nat → Prop) V (hV : Fr F w4 V) (hF : ∀ i, F i → i < w2.heap.size) => hok F V ((f4.mono (fun _ h => h.elim) : Fr F v3 w4).trans hV (fun i hi => .inl hi)) hF
  have hcN := fun V (hV : Fr No w4 V) => hcfg No V hV (fun _ h => h.elim)
  rw [← hw4, ← hg4]
  have hst := fun V (hV : Fr No w4 V) => state_any (cp := cp) (hcN V hV) (hl.fr (f04.transNo hV)) hn 10 (by decide)
  have hen := fun V (hV : Fr No w4 V) t k (G : Nat → Prop) (s : St) (hT : Tp V t A n cp k) (hk : k ≤ 900000) (hs : StOk V G _ s) => entrym_any hT hk (hcN V hV) hs
  obtain ⟨e0, e1, e2, e3, e4, e5, e6, e7, e8, e9⟩ := hkc w4 (Fr.refl _ _)
  clear hw4 hg4 hok f3 f4
  have HZ1 := Lib.hid hz1
  have HZ2 := Lib.hid hz2
  have HKC := Lib.hid hkc
  have HCFG := Lib.hid hcfg
  have HST := Lib.hid hst
  have HEN := Lib.hid hen
  have HCN := Lib.hid hcN
  clear hz1 hz2 hkc hcfg hst hen hcN
  have mono12 : ∀ {V : World}, Fr No w4 V → Fr (fun i => i = g1 ∨ i = g2) w4 V := fun h => h.mono fun _ h => h.elim
  go_region_held3 (fun V => V.cell? ⟨g4, 0, none⟩ = some (.int .i64 (rg : Int)) ∧ V.cell? ⟨g4, 1, none⟩ = some (.slice (some ⟨bz, 0, none⟩) nz cz) ∧ V.cell? ⟨g4, 2, none⟩ = some (.slice (some ⟨bc, 0, none⟩) nc cc) ∧ V.cell? ⟨g4, 3, none⟩ = some (.slice At nt ct) ∧ V.cell? ⟨g4, 4, none⟩ = some (.slice (some ⟨bv, 0, none⟩) nv cv) ∧ V.cell? ⟨g4, 5, none⟩ = some (.slice Ar nr cr) ∧ V.cell? ⟨g4, 6, none⟩ = some (.slice Ao no_ co) ∧ V.cell? ⟨g4, 7, none⟩ = some (.int .i64 bl) ∧ V.cell? ⟨g4, 8, none⟩ = some (.int .i64 (le : Int)) ∧ V.cell? ⟨g4, 9, none⟩ = some (.int .i64 (bk : Int))) (first
      | (refine HKC.out _ (mono12 ?_) <;> (with_reducible ((repeat (first | assumption | exact Fr.refl _ _ | refine Fr.alloc ?_ _ | refine Fr.drew ?_ | refine Fr.drewN ?_ _)); done)))
      | (with_reducible exact HKC.out _ HF1.out)
      | (with_reducible exact HKC.out _ HF2.out))
    (first
      | (go_at_call 25; refine (HNT.out _ (f04.transNo (by (with_reducible ((repeat (first | assumption | exact Fr.refl _ _ | refine Fr.alloc ?_ _ | refine Fr.drew ?_ | refine Fr.drewN ?_ _)); done))))).mono ?_; rintro r v5 ⟨t, rfl, ht1, hT5, f5⟩; have Q5 : Fr No w4 v5 := Fr.transNo (by (with_reducible ((repeat (first | assumption | exact Fr.refl _ _ | refine Fr.alloc ?_ _ | refine Fr.drew ?_ | refine Fr.drewN ?_ _)); done))) f5; have HT5 := Lib.hid hT5; have S5 := Q5.size; clear hT5)
      | (go_at_call 26; refine (HST.out _ Q5).mono ?_; rintro r v6 ⟨⟨tk, cn, Bt, mt, dt, Bs, ms, ds, pr, ev, lo, hi⟩, rfl, hos, f6⟩; have Q6 : Fr No w4 v6 := Fr.transNo Q5 f6; have HOS := Lib.hid hos; clear hos)
      | (go_at_call 24; refine (HEN.out _ Q6 t 0 _ _ (HT5.out.frNo f6) (by decide) HOS.out).mono ?_; rintro r v7 ⟨⟨akd, aet, atn, acl, aot, aep, afm, aun, an⟩, rfl, heo, k7, j1, j2, j3, hT7, f7⟩; have Q7 : Fr No w4 v7 := Q6.transNew f7 (fun i hi => by have hi : i = t := hi; have hD : w4.drew.heap.size = w4.heap.size := rfl; omega); have HEO := Lib.hid heo; clear heo hT7; obtain ⟨u0_, u1_, u2_, u3_, u4_, u5_, u6_, u7_, u8_, u9_⟩ : v7.cell? ⟨g1, 0, none⟩ = some (.int .i64 0) ∧ v7.cell? ⟨g1, 1, none⟩ = some (.slice none 0 0) ∧ v7.cell? ⟨g1, 2, none⟩ = some (.slice none 0 0) ∧ v7.cell? ⟨g1, 3, none⟩ = some (.slice none 0 0) ∧ v7.cell? ⟨g1, 4, none⟩ = some (.slice none 0 0) ∧ v7.cell? ⟨g1, 5, none⟩ = some (.slice none 0 0) ∧ v7.cell? ⟨g1, 6, none⟩ = some (.slice none 0 0) ∧ v7.cell? ⟨g1, 7, none⟩ = some (.int .i64 0) ∧ v7.cell? ⟨g1, 8, none⟩ = some (.int .i64 0) ∧ v7.cell? ⟨g1, 9, none⟩ = some (.int .i64 0) := (let k := HZ1.out _ Q7; ⟨k.cell 0, k.cell 1, k.cell 2, k.cell 3, k.cell 4, k.cell 5, k.cell 6, k.cell 7, k.cell 8, k.cell 9⟩); have ua0 := (HZ1.out _ Q7).frozen 0; have ua1 := (HZ1.out _ Q7).frozen 1; have ua2 := (HZ1.out _ Q7).frozen 2; have ua3 := (HZ1.out _ Q7).frozen 3; have ua4 := (HZ1.out _ Q7).frozen 4; have ua5 := (HZ1.out _ Q7).frozen 5; have ua6 := (HZ1.out _ Q7).frozen 6; have ua7 := (HZ1.out _ Q7).frozen 7; have ua8 := (HZ1.out _ Q7).frozen 8; have ua9 := (HZ1.out _ Q7).frozen 9; obtain ⟨y0, y1, y2, y3, y4, y5, y6, y7, y8⟩ := en_cells (e := (⟨0, 0, 0, 0, 0, 0, 0, 0, 0⟩ : En)) (HZ2.out _ Q7); simp only at y0 y1 y2 y3 y4 y5 y6 y7 y8; have ub0 := (HZ2.out _ Q7).frozen 0; have ub1 := (HZ2.out _ Q7).frozen 1; have ub2 := (HZ2.out _ Q7).frozen 2; have ub3 := (HZ2.out _ Q7).frozen 3; have ub4 := (HZ2.out _ Q7).frozen 4; have ub5 := (HZ2.out _ Q7).frozen 5; have ub6 := (HZ2.out _ Q7).frozen 6; have ub7 := (HZ2.out _ Q7).frozen 7; have ub8 := (HZ2.out _ Q7).frozen 8; have HF1 := (mono12 Q7).trans (cf_fill (W := v7) (q := g1) (⟨rg, le, bk, bl, some ⟨bz, 0, none⟩, nz, cz, some ⟨bc, 0, none⟩, nc, cc, At, nt, ct, some ⟨bv, 0, none⟩, nv, cv, Ar, nr, cr, Ao, no_, co⟩ : Cv) (HZ1.out _ Q7)).2 (fun i hi => .inl (.inl hi)); have HF2 := HF1.trans (en_fill_fr (q := g2) ⟨akd, aet, atn, acl, aot, aep, afm, aun, an⟩) (fun i hi => .inl (.inr hi)); simp only at HF1 HF2; replace HF1 := Lib.hid HF1; replace HF2 := Lib.hid HF2))
  all_goals
    have h1 := cf_fill (⟨rg, le, bk, bl, some ⟨bz, 0, none⟩, nz, cz, some ⟨bc, 0, none⟩, nc, cc, At, nt, ct, some ⟨bv, 0, none⟩, nv, cv, Ar, nr, cr, Ao, no_, co⟩ : Cv) (HZ1.out _ Q7)
    have h2 := en_fill (q := g2) ⟨akd, aet, atn, acl, aot, aep, afm, aun, an⟩ rfl ((HZ2.out _ Q7).fr h1.2 (fun e => hn12 e.symm))
    have h3 := h1.1.fr (en_fill_fr ⟨akd, aet, atn, acl, aot, aep, afm, aun, an⟩) hn12
    have hfr := ((mono12 Q7).trans h1.2 (fun i hi => .inl (.inl hi))).trans (en_fill_fr (q := g2) ⟨akd, aet, atn, acl, aot, aep, afm, aun, an⟩) (fun i hi => .inl (.inr hi))
    have hM : MadeTo w (.returned (.tuple #[.agg (Cv.arr (⟨rg, le, bk, bl, some ⟨bz, 0, none⟩, nz, cz, some ⟨bc, 0, none⟩, nc, cc, At, nt, ct, some ⟨bv, 0, none⟩, nv, cv, Ar, nr, cr, Ao, no_, co⟩ : Cv)), .agg (EnArr ⟨akd, aet, atn, acl, aot, aep, afm, aun, an⟩)])) _ := ⟨⟨rg, nz, nc, nt, nv, le, bk, bz, bc, bv, cz, cc, ct, cv, At, Ar, nr, cr, Ao, no_, co, bl⟩, ⟨akd, aet, atn, acl, aot, aep, afm, aun, an⟩, rfl, HCFG.out _ _ hfr (fun i hi => by rcases hi with rfl | rfl; exact hg1l; exact hg2l), HEO.out, f04.transNew hfr (fun i hi => by have := HG1.out; have := HE2.out; rcases hi with rfl | rfl <;> omega)⟩
    clear h1 hfr
    have H2 := Lib.hid h2
    have H3 := Lib.hid h3
    have HM := Lib.hid hM
    clear h2 h3 hM
    go_wp2_with fail
    exact bodyPost_ret (v := .tuple #[.agg (Cv.arr (⟨rg, le, bk, bl, some ⟨bz, 0, none⟩, nz, cz, some ⟨bc, 0, none⟩, nc, cc, At, nt, ct, some ⟨bv, 0, none⟩, nv, cv, Ar, nr, cr, Ao, no_, co⟩ : Cv)), .agg (EnArr ⟨akd, aet, atn, acl, aot, aep, afm, aun, an⟩)]) (made_results (⟨rg, le, bk, bl, some ⟨bz, 0, none⟩, nz, cz, some ⟨bc, 0, none⟩, nc, cc, At, nt, ct, some ⟨bv, 0, none⟩, nv, cv, Ar, nr, cr, Ao, no_, co⟩ : Cv) ⟨akd, aet, atn, acl, aot, aep, afm, aun, an⟩ g1 g2 _ _ H3.out H2.out rfl rfl) rfl HM.out
end Go.Proofs.YtanhbebikcoliaaDoor
