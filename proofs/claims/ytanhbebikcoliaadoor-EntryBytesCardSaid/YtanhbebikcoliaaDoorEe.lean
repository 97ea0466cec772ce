/-
  Entry.
-/
import Derived.Test.YtanhbebikcoliaaDoorEp
import Derived.Test.YtanhbebikcoliaaDoorEg
namespace Go.Proofs.YtanhbebikcoliaaDoor
open Go.ChangeShapes Go.WideShapes Go.ChangeAt Go.RowKit
set_option linter.unusedVariables false
theorem Fr.only {F : Nat → Prop} {w w' : World} {t : Nat} (h : Fr F w w') (hF : ∀ i, i < w.heap.size → F i → i = t) : Fr (fun i => i = t) w w' := ⟨h.os, h.tape, h.output, h.size, fun i hi hn => h.block i hi fun hf => hn (hF i hi hf)⟩
theorem IntL.frame {w0 w : World} {k : Nat} {v : Value} (h : IntL w0 k v w) : Fr No w0 w := by
  obtain ⟨l, A, c, h1, rfl, h2, h3⟩ := h
  exact h3
/-- The result's box is given an entry that another call answered. -/
theorem EnTo.box {w v : World} {t q : Nat} {A : Option Addr} {n c k0 k d : Nat} {e : En} (he : EnOk e) (ht : Tp v t A n c k) (hw : Fr (fun i => i = t) w v) (hl : TpLow A n w.heap.size) (hq : w.heap.size ≤ q) (hqt : q ≠ t) (hk : k0 ≤ k ∧ k ≤ k0 + d ∧ (0 < n → k0 < k)) :
    EnTo w t A n c k0 d (.returned (.agg (EnArr e))) (World.setCell (World.setCell (World.setCell (World.setCell (World.setCell (World.setCell (World.setCell (World.setCell (World.setCell v ⟨q, 0, none⟩ (.int .i64 e.kind)) ⟨q, 1, none⟩ (.int .i64 e.tick)) ⟨q, 2, none⟩ (.int .i64 e.tenant)) ⟨q, 3, none⟩ (.int .i64 e.cell)) ⟨q, 4, none⟩ (.int .i64 e.other)) ⟨q, 5, none⟩ (.int .i64 e.epoch)) ⟨q, 6, none⟩ (.int .i64 e.from_)) ⟨q, 7, none⟩ (.int .i64 e.until_)) ⟨q, 8, none⟩ (.int .i64 e.n)) :=
  ⟨e, rfl, he, k, hk.1, hk.2.1, hk.2.2, ht.fill e hl hq hqt, hw.trans (en_fill_fr e) fun i hi => by have hi : i = q := hi; exact .inr (by omega)⟩
set_option maxRecDepth 100000 in
set_option maxHeartbeats 8000000 in
theorem entrym_any {w : World} {t : Nat} {A : Option Addr} {nl cp k : Nat} {G : Nat → Prop} {c : Cf} {s : St} (hT : Tp w t A nl cp k) (hk : k ≤ 900000) (h : CfOk w c) (hs : StOk w G c s) :
    Calls Tryd.prog 24 #[.pointer (some ⟨t, 0, none⟩), .agg c.arr, .agg s.arr] w (EnTo w t A nl cp k 24) := by
  have hlow := hT.low
  have htl := hT.blk.lt
  have hcf := fun V (hV : Fr (fun i => i = t) w V) => h.tape hT hV
  have hst := fun V (hV : Fr (fun i => i = t) w V) => hs.tape hT hV
  have hpf := fun V (hV : Fr (fun i => i = t) w V) k' (hT' : Tp V t A nl cp k') (hk' : k' ≤ 999000) tick (htk : okI tick) => platform_any hT' hk' (h.tape hT hV) (hs.tape hT hV) tick htk
  have hgr := fun V (hV : Fr (fun i => i = t) w V) k' (hT' : Tp V t A nl cp k') (hk' : k' ≤ 999000) e he ht1 ht2 hp => grantm_any hT' hk' (h.tape hT hV) (hs.tape hT hV) e he ht1 ht2 hp
  have hhm := fun V (hV : Fr (fun i => i = t) w V) i => homes_any (h.tape hT hV) i
  have hsb := fun V (hV : Fr (fun i => i = t) w V) i j => standbys_any (h.tape hT hV) i j
  have hten := fun i (hi : i < c.nt) V (hV : Fr (fun i => i = t) w V) => (hs.tape hT hV).ten hi
  have hnt2 := h.nt2
  have hnc2 := h.nc2
  have hmx : s.mt ≤ 9223372036854775807 := by have := hs.dt; unfold maxLen at this; omega
  have hms := hs.ms
  have hmt := hs.mt
  obtain ⟨rg, nz, nc, nt, nv, le, bk, bz, bc, bv, cz, cc, ct, cv, At, Ar, nr, cr, Ao, no_, co, bl⟩ := c
  obtain ⟨tk, cn, Bt, mt, dt, Bs, ms, ds, pr, ev, lo, hi⟩ := s
  simp only at *
  subst hms hmt
  clear hs h
  obtain ⟨w1, hw1⟩ : ∃ w1, w1 = w.alloc (.cells #[.int .i64 (rg : Int), .slice (some ⟨bz, 0, none⟩) nz cz, .slice (some ⟨bc, 0, none⟩) ms cc, .slice At mt ct, .slice (some ⟨bv, 0, none⟩) nv cv, .slice Ar nr cr, .slice Ao no_ co, .int .i64 bl, .int .i64 (le : Int), .int .i64 (bk : Int)] TCf) := ⟨_, rfl⟩
  obtain ⟨g1, hg1⟩ : ∃ g1, g1 = w.heap.size := ⟨_, rfl⟩
  have hb1 : Blk w1 g1 TCf #[.int .i64 (rg : Int), .slice (some ⟨bz, 0, none⟩) nz cz, .slice (some ⟨bc, 0, none⟩) ms cc, .slice At mt ct, .slice (some ⟨bv, 0, none⟩) nv cv, .slice Ar nr cr, .slice Ao no_ co, .int .i64 bl, .int .i64 (le : Int), .int .i64 (bk : Int)] := by rw [hw1, hg1]; exact Blk.new _ _ _
  have f1 : Fr No w w1 := by rw [hw1]; exact fr_alloc _ _
  have hs1 : w1.heap.size = g1 + 1 := by rw [hw1, hg1]; simp
  obtain ⟨w2, hw2⟩ : ∃ w2, w2 = w1.alloc (.cells #[.int .i64 tk, .int .i64 cn, .slice Bt mt dt, .slice Bs ms ds, .int .i64 pr, .int .i64 ev, .int .i64 lo, .int .i64 hi] TSt) := ⟨_, rfl⟩
  obtain ⟨g2, hg2⟩ : ∃ g2, g2 = w1.heap.size := ⟨_, rfl⟩
  have hb2 : Blk w2 g2 TSt #[.int .i64 tk, .int .i64 cn, .slice Bt mt dt, .slice Bs ms ds, .int .i64 pr, .int .i64 ev, .int .i64 lo, .int .i64 hi] := by rw [hw2, hg2]; exact Blk.new _ _ _
  have f2 : Fr No w1 w2 := by rw [hw2]; exact fr_alloc _ _
  have hs2 : w2.heap.size = g2 + 1 := by rw [hw2, hg2]; simp
  obtain ⟨w3, hw3⟩ : ∃ w3, w3 = w2.alloc (.cells #[.int .i64 0, .int .i64 0, .int .i64 0, .int .i64 0, .int .i64 0, .int .i64 0, .int .i64 0, .int .i64 0, .int .i64 0] TEm) := ⟨_, rfl⟩
  obtain ⟨g3, hg3⟩ : ∃ g3, g3 = w2.heap.size := ⟨_, rfl⟩
  have hb3 : Blk w3 g3 TEm #[.int .i64 0, .int .i64 0, .int .i64 0, .int .i64 0, .int .i64 0, .int .i64 0, .int .i64 0, .int .i64 0, .int .i64 0] := by rw [hw3, hg3]; exact Blk.new _ _ _
  have f3 : Fr No w2 w3 := by rw [hw3]; exact fr_alloc _ _
  have hs3 : w3.heap.size = g3 + 1 := by rw [hw3, hg3]; simp
  have hB1 : Blk w3 g1 TCf #[.int .i64 (rg : Int), .slice (some ⟨bz, 0, none⟩) nz cz, .slice (some ⟨bc, 0, none⟩) ms cc, .slice At mt ct, .slice (some ⟨bv, 0, none⟩) nv cv, .slice Ar nr cr, .slice Ao no_ co, .int .i64 bl, .int .i64 (le : Int), .int .i64 (bk : Int)] := hb1.fr (((Fr.refl No _).transNo f2).transNo f3) (fun h => h)
  have hB2 : Blk w3 g2 TSt #[.int .i64 tk, .int .i64 cn, .slice Bt mt dt, .slice Bs ms ds, .int .i64 pr, .int .i64 ev, .int .i64 lo, .int .i64 hi] := hb2.fr ((Fr.refl No _).transNo f3) (fun h => h)
  have hB3 : Blk w3 g3 TEm #[.int .i64 0, .int .i64 0, .int .i64 0, .int .i64 0, .int .i64 0, .int .i64 0, .int .i64 0, .int .i64 0, .int .i64 0] := hb3.fr (Fr.refl No _) (fun h => h)
  have fW : Fr No w w3 := (((Fr.refl No w).transNo f1).transNo f2).transNo f3
  have he2 : g2 = g1 + 1 := by rw [hg2, hs1]
  have he3 : g3 = g1 + 2 := by rw [hg3, hs2]; rw [he2]
  have hka : ∀ V, Fr No w3 V → (V.cell? ⟨g1, 0, none⟩ = some (.int .i64 (rg : Int)) ∧ V.cell? ⟨g1, 1, none⟩ = some (.slice (some ⟨bz, 0, none⟩) nz cz) ∧ V.cell? ⟨g1, 2, none⟩ = some (.slice (some ⟨bc, 0, none⟩) ms cc) ∧ V.cell? ⟨g1, 3, none⟩ = some (.slice At mt ct) ∧ V.cell? ⟨g1, 4, none⟩ = some (.slice (some ⟨bv, 0, none⟩) nv cv) ∧ V.cell? ⟨g1, 5, none⟩ = some (.slice Ar nr cr) ∧ V.cell? ⟨g1, 6, none⟩ = some (.slice Ao no_ co) ∧ V.cell? ⟨g1, 7, none⟩ = some (.int .i64 bl) ∧ V.cell? ⟨g1, 8, none⟩ = some (.int .i64 (le : Int)) ∧ V.cell? ⟨g1, 9, none⟩ = some (.int .i64 (bk : Int))) ∧ (V.cell? ⟨g2, 0, none⟩ = some (.int .i64 tk) ∧ V.cell? ⟨g2, 1, none⟩ = some (.int .i64 cn) ∧ V.cell? ⟨g2, 2, none⟩ = some (.slice Bt mt dt) ∧ V.cell? ⟨g2, 3, none⟩ = some (.slice Bs ms ds) ∧ V.cell? ⟨g2, 4, none⟩ = some (.int .i64 pr) ∧ V.cell? ⟨g2, 5, none⟩ = some (.int .i64 ev) ∧ V.cell? ⟨g2, 6, none⟩ = some (.int .i64 lo) ∧ V.cell? ⟨g2, 7, none⟩ = some (.int .i64 hi)) ∧ (V.cell? ⟨g3, 0, none⟩ = some (.int .i64 0) ∧ V.cell? ⟨g3, 1, none⟩ = some (.int .i64 0) ∧ V.cell? ⟨g3, 2, none⟩ = some (.int .i64 0) ∧ V.cell? ⟨g3, 3, none⟩ = some (.int .i64 0) ∧ V.cell? ⟨g3, 4, none⟩ = some (.int .i64 0) ∧ V.cell? ⟨g3, 5, none⟩ = some (.int .i64 0) ∧ V.cell? ⟨g3, 6, none⟩ = some (.int .i64 0) ∧ V.cell? ⟨g3, 7, none⟩ = some (.int .i64 0) ∧ V.cell? ⟨g3, 8, none⟩ = some (.int .i64 0)) := fun V hf => ⟨(let k := hB1.fr hf (fun h => h); ⟨k.cell 0, k.cell 1, k.cell 2, k.cell 3, k.cell 4, k.cell 5, k.cell 6, k.cell 7, k.cell 8, k.cell 9⟩), (let k := hB2.fr hf (fun h => h); ⟨k.cell 0, k.cell 1, k.cell 2, k.cell 3, k.cell 4, k.cell 5, k.cell 6, k.cell 7⟩), (let k := hB3.fr hf (fun h => h); ⟨k.cell 0, k.cell 1, k.cell 2, k.cell 3, k.cell 4, k.cell 5, k.cell 6, k.cell 7, k.cell 8⟩)⟩
  have hW : w3 = ((w.alloc (.cells #[.int .i64 (rg : Int), .slice (some ⟨bz, 0, none⟩) nz cz, .slice (some ⟨bc, 0, none⟩) ms cc, .slice At mt ct, .slice (some ⟨bv, 0, none⟩) nv cv, .slice Ar nr cr, .slice Ao no_ co, .int .i64 bl, .int .i64 (le : Int), .int .i64 (bk : Int)] TCf)).alloc (.cells #[.int .i64 tk, .int .i64 cn, .slice Bt mt dt, .slice Bs ms ds, .int .i64 pr, .int .i64 ev, .int .i64 lo, .int .i64 hi] TSt)).alloc (.cells #[.int .i64 0, .int .i64 0, .int .i64 0, .int .i64 0, .int .i64 0, .int .i64 0, .int .i64 0, .int .i64 0, .int .i64 0] TEm) := by rw [hw3, hw2, hw1]
  have hl1 : g1 < w3.heap.size := hB1.lt
  have hl2 : g2 < w3.heap.size := hB2.lt
  have hl3 : g3 < w3.heap.size := hB3.lt
  clear hw1 hb1 hs1 hw2 hb2 hs2 hw3 hb3 hs3
  have HG1 := Lib.hid hg1
  have HG2 := Lib.hid hg2
  have HG3 := Lib.hid hg3
  have HE2 := Lib.hid he2
  have HE3 := Lib.hid he3
  clear hg1 hg2 hg3 he2 he3
  have hg3 : w.heap.size ≤ g3 := by rw [HE3.out, HG1.out]; omega
  have hne3t : g3 ≠ t := by omega
  have hne1t : g1 ≠ t := by have := HG1.out; omega
  have hne2t : g2 ≠ t := by have := HE2.out; have := HG1.out; omega
  have hkb := fun V (hV : Fr (fun i => i = t) w3 V) => (⟨(let k := hB1.fr hV hne1t; ⟨k.cell 0, k.cell 1, k.cell 2, k.cell 3, k.cell 4, k.cell 5, k.cell 6, k.cell 7, k.cell 8, k.cell 9⟩), (let k := hB2.fr hV hne2t; ⟨k.cell 0, k.cell 1, k.cell 2, k.cell 3, k.cell 4, k.cell 5, k.cell 6, k.cell 7⟩)⟩ : (V.cell? ⟨g1, 0, none⟩ = some (.int .i64 (rg : Int)) ∧ V.cell? ⟨g1, 1, none⟩ = some (.slice (some ⟨bz, 0, none⟩) nz cz) ∧ V.cell? ⟨g1, 2, none⟩ = some (.slice (some ⟨bc, 0, none⟩) ms cc) ∧ V.cell? ⟨g1, 3, none⟩ = some (.slice At mt ct) ∧ V.cell? ⟨g1, 4, none⟩ = some (.slice (some ⟨bv, 0, none⟩) nv cv) ∧ V.cell? ⟨g1, 5, none⟩ = some (.slice Ar nr cr) ∧ V.cell? ⟨g1, 6, none⟩ = some (.slice Ao no_ co) ∧ V.cell? ⟨g1, 7, none⟩ = some (.int .i64 bl) ∧ V.cell? ⟨g1, 8, none⟩ = some (.int .i64 (le : Int)) ∧ V.cell? ⟨g1, 9, none⟩ = some (.int .i64 (bk : Int))) ∧ (V.cell? ⟨g2, 0, none⟩ = some (.int .i64 tk) ∧ V.cell? ⟨g2, 1, none⟩ = some (.int .i64 cn) ∧ V.cell? ⟨g2, 2, none⟩ = some (.slice Bt mt dt) ∧ V.cell? ⟨g2, 3, none⟩ = some (.slice Bs ms ds) ∧ V.cell? ⟨g2, 4, none⟩ = some (.int .i64 pr) ∧ V.cell? ⟨g2, 5, none⟩ = some (.int .i64 ev) ∧ V.cell? ⟨g2, 6, none⟩ = some (.int .i64 lo) ∧ V.cell? ⟨g2, 7, none⟩ = some (.int .i64 hi)))
  have h3 := fun V (hV : Fr (fun i => i = t) w3 V) => (hB3.fr hV hne3t : Blk V g3 TEm (EnArr (⟨0, 0, 0, 0, 0, 0, 0, 0, 0⟩ : En)))
  have fWt : Fr (fun i => i = t) w w3 := fW.mono (fun _ h => h.elim)
  have hT3 := hT.frNo fW
  have HKA0 := hka
  clear hka HKA0
  have hka := hkb
  have HCF := Lib.hid hcf
  have HST := Lib.hid hst
  have HPF := Lib.hid hpf
  have HGR := Lib.hid hgr
  have HHM := Lib.hid hhm
  have HSB := Lib.hid hsb
  have HTEN := Lib.hid hten
  have HKA := Lib.hid hka
  have HW := Lib.hid hW
  have H3 := Lib.hid h3
  clear hcf hst hpf hgr hhm hsb hten hka hW h3
  go_enter Tryd.func24, Tryd.ntmps24
  go_upto_region 1 with fail
  rw [← HW.out]
  try rw [← show g3 = w.heap.size + 2 from by rw [HE3.out, HG1.out]]
  try rw [← show g2 = w.heap.size + 1 from by rw [HE2.out, HG1.out]]
  try rw [← HG1.out]
  have FT := Lib.hid (Fr.refl (fun i => i = t) w3)
  have HT := Lib.hid hT3
  clear hT3 hT
  obtain ⟨⟨e0, e1, e2, e3, e4, e5, e6, e7, e8, e9⟩, ⟨s0, s1, s2, s3, s4, s5, s6, s7⟩⟩ := HKA.out w3 FT.out
  go_cut [7] from 12 to 16 (fun x wx => (∃ z : Int, x = .int .i64 z ∧ okI z) ∧ ∃ k', k ≤ k' ∧ k' ≤ k + 1 ∧ (0 < nl → k < k') ∧ Tp wx t A nl cp k' ∧ Fr (fun i => i = t) w3 wx)
  case first =>
    go_region_held3 (fun V => (V.cell? ⟨g1, 0, none⟩ = some (.int .i64 (rg : Int)) ∧ V.cell? ⟨g1, 1, none⟩ = some (.slice (some ⟨bz, 0, none⟩) nz cz) ∧ V.cell? ⟨g1, 2, none⟩ = some (.slice (some ⟨bc, 0, none⟩) ms cc) ∧ V.cell? ⟨g1, 3, none⟩ = some (.slice At mt ct) ∧ V.cell? ⟨g1, 4, none⟩ = some (.slice (some ⟨bv, 0, none⟩) nv cv) ∧ V.cell? ⟨g1, 5, none⟩ = some (.slice Ar nr cr) ∧ V.cell? ⟨g1, 6, none⟩ = some (.slice Ao no_ co) ∧ V.cell? ⟨g1, 7, none⟩ = some (.int .i64 bl) ∧ V.cell? ⟨g1, 8, none⟩ = some (.int .i64 (le : Int)) ∧ V.cell? ⟨g1, 9, none⟩ = some (.int .i64 (bk : Int))) ∧ (V.cell? ⟨g2, 0, none⟩ = some (.int .i64 tk) ∧ V.cell? ⟨g2, 1, none⟩ = some (.int .i64 cn) ∧ V.cell? ⟨g2, 2, none⟩ = some (.slice Bt mt dt) ∧ V.cell? ⟨g2, 3, none⟩ = some (.slice Bs ms ds) ∧ V.cell? ⟨g2, 4, none⟩ = some (.int .i64 pr) ∧ V.cell? ⟨g2, 5, none⟩ = some (.int .i64 ev) ∧ V.cell? ⟨g2, 6, none⟩ = some (.int .i64 lo) ∧ V.cell? ⟨g2, 7, none⟩ = some (.int .i64 hi))) (exact HKA.out _ (by first | exact (FT.out.drew) | exact FQ1)) (first
      | (go_at_call 34; refine (next_any (HT.out.frNo (Fr.refl No _).drew) (by omega) _ (by decide) (by decide)).mono ?_; rintro r v ⟨z, rfl, z1, z2, k2, j1, j2, j3, hT, hF⟩; have FQ1 := (FT.out.drew).transSame hF; have HT1 := Lib.hid hT; clear hT))
    all_goals (try go_wp2_with fail)
    all_goals go_meet
    all_goals exact ⟨⟨_, rfl, by first | exact ok64 _ | exact okw _⟩, k2, by omega, by omega, (fun h => by have := j3 h; omega), by first | exact HT1.out | exact HT1.out.frNo (Fr.refl No _).drew, by first | exact FQ1 | exact FQ1.drew⟩
  obtain ⟨⟨tick, rfl, htk⟩, hP⟩ := hcut
  clear e0 e1 e2 e3 e4 e5 e6 e7 e8 e9 s0 s1 s2 s3 s4 s5 s6 s7
  obtain ⟨kk, ka, kb, j0, hT, hF⟩ := hP
  replace HT := Lib.hid hT
  replace FT := Lib.hid hF
  clear hT hF
  obtain ⟨⟨e0, e1, e2, e3, e4, e5, e6, e7, e8, e9⟩, ⟨s0, s1, s2, s3, s4, s5, s6, s7⟩⟩ := HKA.out _ FT.out
  go_upto_region 2 with fail
  go_cut [18] from 17 to 18 (fun x wx => (∃ B : Bool, x = .bool B) ∧ ∃ k', k ≤ k' ∧ k' ≤ k + 2 ∧ (0 < nl → k < k') ∧ Tp wx t A nl cp k' ∧ Fr (fun i => i = t) w3 wx)
  case first =>
    go_wp2_with fail
    refine (yes_any HT.out (by omega) _ (by decide) (by decide)).mono ?_
    rintro r v ⟨B, rfl, k2, j1, j2, hT, hF⟩
    replace HT := Lib.hid hT
    replace FT := Lib.hid (FT.out.transSame hF)
    clear hT hF
    clear e0 e1 e2 e3 e4 e5 e6 e7 e8 e9 s0 s1 s2 s3 s4 s5 s6 s7
    obtain ⟨⟨e0, e1, e2, e3, e4, e5, e6, e7, e8, e9⟩, ⟨s0, s1, s2, s3, s4, s5, s6, s7⟩⟩ := HKA.out _ FT.out
    go_wp2_with fail
    go_meet
    exact ⟨⟨_, rfl⟩, ⟨k2, by omega, by omega, (fun h => by have := j0 h; omega), HT.out, FT.out⟩⟩
  obtain ⟨⟨B, rfl⟩, hP⟩ := hcut
  clear e0 e1 e2 e3 e4 e5 e6 e7 e8 e9 s0 s1 s2 s3 s4 s5 s6 s7
  obtain ⟨kk, ka, kb, j0, hT, hF⟩ := hP
  replace HT := Lib.hid hT
  replace FT := Lib.hid hF
  clear hT hF
  obtain ⟨⟨e0, e1, e2, e3, e4, e5, e6, e7, e8, e9⟩, ⟨s0, s1, s2, s3, s4, s5, s6, s7⟩⟩ := HKA.out _ FT.out
  go_upto_if 18 with fail
  go_cut [7] from 19 to 22 (fun x wx => (∃ z : Int, x = .int .i64 z ∧ okI z) ∧ ∃ k', k ≤ k' ∧ k' ≤ k + 2 ∧ (0 < nl → k < k') ∧ Tp wx t A nl cp k' ∧ Fr (fun i => i = t) w3 wx)
  case first =>
    rcases B with _ | _
    · go_wp2_with fail
      go_meet
      exact ⟨⟨_, rfl, htk⟩, ⟨kk, by omega, by omega, (fun h => by have := j0 h; omega), HT.out, FT.out⟩⟩
    · go_wp2_with fail
      all_goals go_meet
      all_goals exact ⟨⟨_, rfl, by first | exact ok64 _ | exact okI_lit 0 | exact okw _ | exact okI_max (okI_lit 0) (ok64 _)⟩, ⟨kk, by omega, by omega, (fun h => by have := j0 h; omega), HT.out, FT.out⟩⟩
  obtain ⟨⟨tick2, rfl, htk2⟩, hP⟩ := hcut
  clear e0 e1 e2 e3 e4 e5 e6 e7 e8 e9 s0 s1 s2 s3 s4 s5 s6 s7
  obtain ⟨kk, ka, kb, j0, hT, hF⟩ := hP
  replace HT := Lib.hid hT
  replace FT := Lib.hid hF
  clear hT hF
  obtain ⟨⟨e0, e1, e2, e3, e4, e5, e6, e7, e8, e9⟩, ⟨s0, s1, s2, s3, s4, s5, s6, s7⟩⟩ := HKA.out _ FT.out
  go_upto_region 4 with fail
  go_cut [30] from 23 to 30 (fun x wx => (∃ B : Bool, x = .bool B ∧ (B = false → 0 < mt)) ∧ ∃ k', k ≤ k' ∧ k' ≤ k + 3 ∧ (0 < nl → k < k') ∧ Tp wx t A nl cp k' ∧ Fr (fun i => i = t) w3 wx)
  case first =>
    by_cases h0 : mt = 0
    · have b0 : ((mt : Int) == 0) = true := by simp; omega
      go_wp2_with fail
      go_meet
      exact ⟨⟨_, rfl, fun h => by cases h⟩, ⟨kk, by omega, by omega, (fun h => by have := j0 h; omega), HT.out, FT.out⟩⟩
    · have b0 : ((mt : Int) == 0) = false := by simp; omega
      go_wp2_with fail
      refine (yes_any HT.out (by omega) _ (by decide) (by decide)).mono ?_
      rintro r v ⟨B, rfl, k2, j1, j2, hT, hF⟩
      replace HT := Lib.hid hT
      replace FT := Lib.hid (FT.out.transSame hF)
      clear hT hF
      clear e0 e1 e2 e3 e4 e5 e6 e7 e8 e9 s0 s1 s2 s3 s4 s5 s6 s7
      obtain ⟨⟨e0, e1, e2, e3, e4, e5, e6, e7, e8, e9⟩, ⟨s0, s1, s2, s3, s4, s5, s6, s7⟩⟩ := HKA.out _ FT.out
      go_wp2_with fail
      go_meet
      exact ⟨⟨_, rfl, fun _ => by omega⟩, ⟨k2, by omega, by omega, (fun h => by have := j0 h; omega), HT.out, FT.out⟩⟩
  obtain ⟨⟨B, rfl, hB⟩, hP⟩ := hcut
  clear e0 e1 e2 e3 e4 e5 e6 e7 e8 e9 s0 s1 s2 s3 s4 s5 s6 s7
  obtain ⟨kk, ka, kb, j0, hT, hF⟩ := hP
  replace HT := Lib.hid hT
  replace FT := Lib.hid hF
  clear hT hF
  obtain ⟨⟨e0, e1, e2, e3, e4, e5, e6, e7, e8, e9⟩, ⟨s0, s1, s2, s3, s4, s5, s6, s7⟩⟩ := HKA.out _ FT.out
  rcases B with _ | _
  rotate_left
  · go_wp2_with fail
    refine (HPF.out _ (fWt.trans FT.out (fun i hi => .inl hi)) _ HT.out (by omega) tick2 htk2).mono ?_
    rintro r v ⟨⟨akd, aet, atn, acl, aot, aep, afm, aun, an⟩, rfl, hok, k2, j1, j2, j3, hT, hF⟩
    replace HT := Lib.hid hT
    replace FT := Lib.hid (FT.out.transSame hF)
    clear hT hF
    clear e0 e1 e2 e3 e4 e5 e6 e7 e8 e9 s0 s1 s2 s3 s4 s5 s6 s7
    obtain ⟨⟨e0, e1, e2, e3, e4, e5, e6, e7, e8, e9⟩, ⟨s0, s1, s2, s3, s4, s5, s6, s7⟩⟩ := HKA.out _ FT.out
    have hT9 := EnTo.box (q := g3) (k0 := k) (d := 24) hok HT.out (fWt.trans FT.out (fun i hi => .inl hi)) hlow hg3 hne3t ⟨by omega, by omega, (fun h => by have := j0 h; omega)⟩
    have h3f := H3.out _ FT.out
    have hT8 := en_fill (q := g3) ⟨akd, aet, atn, acl, aot, aep, afm, aun, an⟩ rfl h3f
    obtain ⟨y0, y1, y2, y3, y4, y5, y6, y7, y8⟩ := en_cells (e := (⟨0, 0, 0, 0, 0, 0, 0, 0, 0⟩ : En)) h3f
    simp only at y0 y1 y2 y3 y4 y5 y6 y7 y8
    have q0 := h3f.frozen 0
    have q1 := h3f.frozen 1
    have q2 := h3f.frozen 2
    have q3 := h3f.frozen 3
    have q4 := h3f.frozen 4
    have q5 := h3f.frozen 5
    have q6 := h3f.frozen 6
    have q7 := h3f.frozen 7
    have q8 := h3f.frozen 8
    clear h3f hok
    have HT9 := Lib.hid hT9
    have HT8 := Lib.hid hT8
    clear hT9 hT8
    go_wp2_with fail
    exact bodyPost_ret (v := .agg (EnArr ⟨akd, aet, atn, acl, aot, aep, afm, aun, an⟩)) (entrym_results ⟨akd, aet, atn, acl, aot, aep, afm, aun, an⟩ g3 _ _ HT8.out rfl) rfl HT9.out
  have hmt0 := hB rfl
  go_wp2_with fail
  refine (next_q HT.out (by omega) _ (by omega) (by omega)).mono ?_
  rintro r v ⟨ii, rfl, z1, z2, k2, j1, j2, hT, hF⟩
  replace HT := Lib.hid hT
  replace FT := Lib.hid (FT.out.transSame hF)
  clear hT hF
  clear e0 e1 e2 e3 e4 e5 e6 e7 e8 e9 s0 s1 s2 s3 s4 s5 s6 s7
  obtain ⟨⟨e0, e1, e2, e3, e4, e5, e6, e7, e8, e9⟩, ⟨s0, s1, s2, s3, s4, s5, s6, s7⟩⟩ := HKA.out _ FT.out
  obtain ⟨i, rfl, hil⟩ := nat_of (i := ii) (n := mt) (by omega) (by omega)
  have hix : (0 : Int) ≤ (i : Int) ∧ (i : Int) < (mt : Int) := by omega
  go_upto_region 7 with fail
  have fv0 : Fr (fun i => i = t) w v := fWt.trans FT.out (fun i hi => .inl hi)
  obtain ⟨bt, ⟨pl, sh, hm, sb, nx, tg, tp, wc_, we, wv, wf, wu⟩, rfl, hbG, hbl, hto, hrow⟩ := HTEN.out i hil v fv0
  obtain ⟨r0, r1, r2, r3, r4, r5, r6, r7, r8, r9, r10, r11⟩ := hrow v (Fr.refl _ _)
  simp only at r0 r1 r2 r3 r4 r5 r6 r7 r8 r9 r10 r11
  go_upto_region 8 with fail
  obtain ⟨w5, hw5⟩ : ∃ w5, w5 = v.alloc (.cells #[.bool pl, .bool sh, .int .i64 hm, .int .i64 sb, .int .i64 nx, .int .i64 tg, .int .i64 tp, .int .i64 wc_, .int .i64 we, .int .i64 wv, .int .i64 wf, .int .i64 wu] TTs) := ⟨_, rfl⟩
  obtain ⟨gx, hgx⟩ : ∃ gx, gx = v.heap.size := ⟨_, rfl⟩
  have f5 : Fr No v w5 := by rw [hw5]; exact fr_alloc _ _
  have hbx : Blk w5 gx TTs #[.bool pl, .bool sh, .int .i64 hm, .int .i64 sb, .int .i64 nx, .int .i64 tg, .int .i64 tp, .int .i64 wc_, .int .i64 we, .int .i64 wv, .int .i64 wf, .int .i64 wu] := by rw [hw5, hgx]; exact Blk.new _ _ _
  rw [← hw5, ← hgx]
  have hvl := HT.out.blk.lt
  have hgv := fv0.size
  have h3v := (H3.out v FT.out).lt
  have hnx : gx ≠ t := by omega
  have hnx3 : gx ≠ g3 := by omega
  have r0x := fun V (hV : Fr No w5 V) => (hrow V (f5.transNo hV)).1
  replace HT := Lib.hid (HT.out.frNo f5)
  replace FT := Lib.hid (FT.out.afterNo f5)
  have hx5 := fun V (hV : Fr (fun i => i = t) w5 V) => (let k := hbx.fr hV hnx; ⟨k.cell 0, k.cell 1, k.cell 2, k.cell 3, k.cell 4, k.cell 5, k.cell 6, k.cell 7, k.cell 8, k.cell 9, k.cell 10, k.cell 11⟩ : V.cell? ⟨gx, 0, none⟩ = some (.bool pl) ∧ V.cell? ⟨gx, 1, none⟩ = some (.bool sh) ∧ V.cell? ⟨gx, 2, none⟩ = some (.int .i64 hm) ∧ V.cell? ⟨gx, 3, none⟩ = some (.int .i64 sb) ∧ V.cell? ⟨gx, 4, none⟩ = some (.int .i64 nx) ∧ V.cell? ⟨gx, 5, none⟩ = some (.int .i64 tg) ∧ V.cell? ⟨gx, 6, none⟩ = some (.int .i64 tp) ∧ V.cell? ⟨gx, 7, none⟩ = some (.int .i64 wc_) ∧ V.cell? ⟨gx, 8, none⟩ = some (.int .i64 we) ∧ V.cell? ⟨gx, 9, none⟩ = some (.int .i64 wv) ∧ V.cell? ⟨gx, 10, none⟩ = some (.int .i64 wf) ∧ V.cell? ⟨gx, 11, none⟩ = some (.int .i64 wu))
  have hptl : bt ≠ t := by
    obtain ⟨b', cur, e1, -, e3, -⟩ := (HST.out v fv0).tens.resolve_left (by simp only; omega)
    injection e1 with e1
    injection e1 with e1
    subst e1
    have hT5 := HT.out
    exact fun e => by
      have h1 := (hT5.ne (e3.fr f5 (fun h => h)) (by decide))
      exact h1 e
  have hbl5 : bt < w5.heap.size := Nat.lt_of_lt_of_le hbl f5.size
  have gxl : gx < w5.heap.size := hbx.lt
  have hpl5 := r0x w5 (Fr.refl _ _)
  simp only at hpl5
  clear hw5 hgx hbx r0 r1 r2 r3 r4 r5 r6 r7 r8 r9 r10 r11 hrow r0x
  have HX5 := Lib.hid hx5
  have HTO := Lib.hid hto
  clear hx5 hto
  clear e0 e1 e2 e3 e4 e5 e6 e7 e8 e9 s0 s1 s2 s3 s4 s5 s6 s7
  obtain ⟨⟨e0, e1, e2, e3, e4, e5, e6, e7, e8, e9⟩, ⟨s0, s1, s2, s3, s4, s5, s6, s7⟩⟩ := HKA.out _ FT.out
  obtain ⟨r0, r1, r2, r3, r4, r5, r6, r7, r8, r9, r10, r11⟩ := HX5.out w5 (Fr.refl _ _)
  rcases pl with _ | _
  · go_wp2_with fail
    refine (nonem_any _ _ _).mono ?_
    rintro r v4 ⟨rfl, f4⟩
    go_upto_region 10 with fail
    obtain ⟨w6, hw6⟩ : ∃ w6, w6 = v4.alloc (.cells (EnArr ⟨1, tick2, -1, -1, -1, 0, 0, 0, 0⟩) TEm) := ⟨_, rfl⟩
    obtain ⟨gE, hgE0⟩ : ∃ gE, gE = v4.heap.size := ⟨_, rfl⟩
    have f6 : Fr No v4 w6 := by rw [hw6]; exact fr_alloc _ _
    have f56 := f4.transNo f6
    have hs4 := f4.size
    have hs5 := (FT.out).size
    have h3w := (H3.out w5 FT.out).lt
    have hxw := gxl
    have hgE : w.heap.size ≤ gE := by omega
    have hneE : gE ≠ t := by have := HT.out.blk.lt; omega
    have hne3 : g3 ≠ gE := by omega
    have gr0 : GrS w6 t gE A nl cp (fun _ => True) w6 k2 ⟨1, tick2, -1, -1, -1, 0, 0, 0, 0⟩ := ⟨by rw [hw6, hgE0]; exact Blk.new _ _ _, ⟨okI_lit _, htk2, okI_lit _, okI_lit _, okI_lit _, okI_lit _, okI_lit _, okI_lit _, okI_lit _⟩, trivial, HT.out.frNo f56, Fr.refl _ _⟩
    have hb5 : Fr (fun i => i = t) w5 w6 := f56.mono (fun _ h => h.elim)
    have hb3 : Fr (fun i => i = t) w3 w6 := FT.out.trans hb5 (fun i hi => .inl hi)
    have hb0 : Fr (fun i => i = t) w w6 := fWt.trans hb3 (fun i hi => .inl hi)
    have hg5 : w5.heap.size ≤ gE := by omega
    have hg3' : w3.heap.size ≤ gE := by have := FT.out.size; omega
    have ftg : ∀ {V k' e'}, GrS w6 t gE A nl cp (fun _ => True) V k' e' → Fr (fun i => i = t) w3 V := fun h => hb3.trans h.fr (fun i hi => by rcases hi with hi | hi; exact .inl hi; exact .inr (by omega))
    have f5g : ∀ {V k' e'}, GrS w6 t gE A nl cp (fun _ => True) V k' e' → Fr (fun i => i = t) w5 V := fun h => hb5.trans h.fr (fun i hi => by rcases hi with hi | hi; exact .inl hi; exact .inr (by omega))
    have f0g : ∀ {V k' e'}, GrS w6 t gE A nl cp (fun _ => True) V k' e' → Fr (fun i => i = t) w V := fun h => hb0.trans h.fr (fun i hi => by rcases hi with hi | hi; exact .inl hi; exact .inr (by omega))
    rw [← hw6, ← hgE0]
    have GR := Lib.hid gr0
    clear gr0 hw6 hgE0 f6 f56 f4 r0 r1 r2 r3 r4 r5 r6 r7 r8 r9 r10 r11
    clear e0 e1 e2 e3 e4 e5 e6 e7 e8 e9 s0 s1 s2 s3 s4 s5 s6 s7
    obtain ⟨⟨e0, e1, e2, e3, e4, e5, e6, e7, e8, e9⟩, ⟨s0, s1, s2, s3, s4, s5, s6, s7⟩⟩ := HKA.out _ (ftg GR.out)
    obtain ⟨r0, r1, r2, r3, r4, r5, r6, r7, r8, r9, r10, r11⟩ := HX5.out _ (f5g GR.out)
    obtain ⟨m0, m1, m2, m3, m4, m5, m6, m7, m8⟩ := en_cells GR.out.eb
    simp only at m0 m1 m2 m3 m4 m5 m6 m7 m8
    have mf := GR.out.eb.frozen
    go_upto_region 10 with fail
    go_cut [] from 51 to 52 (fun wx => (∃ e' k', GrS w6 t gE A nl cp (fun _ => True) wx k' e' ∧ k ≤ k' ∧ k' ≤ k + 4 ∧ (0 < nl → k < k') ∧ e'.tenant = (i : Int)))
    case first =>
      go_wp2_with fail
      go_meet
      exact ⟨_, k2, GrS.put2 GR.out hlow hgE hneE _ (okI_of (m := 17) (by (try dsimp only); omega) (by (try dsimp only); omega) (by decide)) trivial, by omega, by omega, (fun h => by have := j0 h; omega), rfl⟩
    have hP := hcut
    clear hcut
    clear e0 e1 e2 e3 e4 e5 e6 e7 e8 e9 s0 s1 s2 s3 s4 s5 s6 s7 r0 r1 r2 r3 r4 r5 r6 r7 r8 r9 r10 r11 m0 m1 m2 m3 m4 m5 m6 m7 m8 mf
    obtain ⟨⟨kd, et, tn, cl, ot, ep, fm, un, n⟩, kk, gr, ka, kb, j0, htn⟩ := hP
    simp only at htn
    subst htn
    replace GR := Lib.hid gr
    clear gr
    obtain ⟨⟨e0, e1, e2, e3, e4, e5, e6, e7, e8, e9⟩, ⟨s0, s1, s2, s3, s4, s5, s6, s7⟩⟩ := HKA.out _ (ftg GR.out)
    obtain ⟨r0, r1, r2, r3, r4, r5, r6, r7, r8, r9, r10, r11⟩ := HX5.out _ (f5g GR.out)
    obtain ⟨m0, m1, m2, m3, m4, m5, m6, m7, m8⟩ := en_cells GR.out.eb
    simp only at m0 m1 m2 m3 m4 m5 m6 m7 m8
    have mf := GR.out.eb.frozen
    go_upto_region 11 with fail
    go_cut [] from 53 to 59 (fun wx => (∃ e' k', GrS w6 t gE A nl cp (fun _ => True) wx k' e' ∧ k ≤ k' ∧ k' ≤ k + 5 ∧ (0 < nl → k < k') ∧ e'.tenant = (i : Int)))
    case first =>
      go_wp2_with fail
      refine (HHM.out _ (f0g GR.out) _).mono ?_
      rintro r v7 ⟨vl, rfl, hIL⟩
      have f0s := (f0g GR.out).size
      replace GR := Lib.hid (GR.out.frNo hIL.frame)
      clear e0 e1 e2 e3 e4 e5 e6 e7 e8 e9 s0 s1 s2 s3 s4 s5 s6 s7 r0 r1 r2 r3 r4 r5 r6 r7 r8 r9 r10 r11 m0 m1 m2 m3 m4 m5 m6 m7 m8 mf
      obtain ⟨⟨e0, e1, e2, e3, e4, e5, e6, e7, e8, e9⟩, ⟨s0, s1, s2, s3, s4, s5, s6, s7⟩⟩ := HKA.out _ (ftg GR.out)
      obtain ⟨r0, r1, r2, r3, r4, r5, r6, r7, r8, r9, r10, r11⟩ := HX5.out _ (f5g GR.out)
      obtain ⟨m0, m1, m2, m3, m4, m5, m6, m7, m8⟩ := en_cells GR.out.eb
      simp only at m0 m1 m2 m3 m4 m5 m6 m7 m8
      have mf := GR.out.eb.frozen
      go_wp2_with fail
      refine (pick_any GR.out.tp (by omega) hIL (Nat.lt_of_lt_of_le htl (f0s))).mono ?_
      rintro r v8 ⟨z, rfl, hz, k2, j1, j2, hT, hF⟩
      replace GR := Lib.hid (GR.out.tape hT hF hneE)
      clear hT hF hIL
      clear e0 e1 e2 e3 e4 e5 e6 e7 e8 e9 s0 s1 s2 s3 s4 s5 s6 s7 r0 r1 r2 r3 r4 r5 r6 r7 r8 r9 r10 r11 m0 m1 m2 m3 m4 m5 m6 m7 m8 mf
      obtain ⟨⟨e0, e1, e2, e3, e4, e5, e6, e7, e8, e9⟩, ⟨s0, s1, s2, s3, s4, s5, s6, s7⟩⟩ := HKA.out _ (ftg GR.out)
      obtain ⟨r0, r1, r2, r3, r4, r5, r6, r7, r8, r9, r10, r11⟩ := HX5.out _ (f5g GR.out)
      obtain ⟨m0, m1, m2, m3, m4, m5, m6, m7, m8⟩ := en_cells GR.out.eb
      simp only at m0 m1 m2 m3 m4 m5 m6 m7 m8
      have mf := GR.out.eb.frozen
      all_goals (try go_wp2_with fail)
      all_goals go_meet
      all_goals exact ⟨_, k2, GrS.put3 GR.out hlow hgE hneE _ (by first | exact okI_lit 0 | exact okI_of (m := 17) (by omega) (by omega) (by decide) | exact okI_max (okI_lit 0) (okI_of (m := 17) (by omega) (by omega) (by decide))) trivial, by omega, by omega, (fun h => by have := j0 h; omega), rfl⟩
    have hP := hcut
    clear hcut
    clear e0 e1 e2 e3 e4 e5 e6 e7 e8 e9 s0 s1 s2 s3 s4 s5 s6 s7 r0 r1 r2 r3 r4 r5 r6 r7 r8 r9 r10 r11 m0 m1 m2 m3 m4 m5 m6 m7 m8 mf
    obtain ⟨⟨kd, et, tn, cl, ot, ep, fm, un, n⟩, kk, gr, ka, kb, j0, htn⟩ := hP
    simp only at htn
    subst htn
    replace GR := Lib.hid gr
    clear gr
    obtain ⟨⟨e0, e1, e2, e3, e4, e5, e6, e7, e8, e9⟩, ⟨s0, s1, s2, s3, s4, s5, s6, s7⟩⟩ := HKA.out _ (ftg GR.out)
    obtain ⟨r0, r1, r2, r3, r4, r5, r6, r7, r8, r9, r10, r11⟩ := HX5.out _ (f5g GR.out)
    obtain ⟨m0, m1, m2, m3, m4, m5, m6, m7, m8⟩ := en_cells GR.out.eb
    simp only at m0 m1 m2 m3 m4 m5 m6 m7 m8
    have mf := GR.out.eb.frozen
    go_upto_region 12 with fail
    go_cut [] from 60 to 67 (fun wx => (∃ e' k', GrS w6 t gE A nl cp (fun _ => True) wx k' e' ∧ k ≤ k' ∧ k' ≤ k + 6 ∧ (0 < nl → k < k') ∧ e'.tenant = (i : Int)))
    case first =>
      go_wp2_with fail
      refine (HSB.out _ (f0g GR.out) _ _).mono ?_
      rintro r v7 ⟨vl, rfl, hIL⟩
      have f0s := (f0g GR.out).size
      replace GR := Lib.hid (GR.out.frNo hIL.frame)
      clear e0 e1 e2 e3 e4 e5 e6 e7 e8 e9 s0 s1 s2 s3 s4 s5 s6 s7 r0 r1 r2 r3 r4 r5 r6 r7 r8 r9 r10 r11 m0 m1 m2 m3 m4 m5 m6 m7 m8 mf
      obtain ⟨⟨e0, e1, e2, e3, e4, e5, e6, e7, e8, e9⟩, ⟨s0, s1, s2, s3, s4, s5, s6, s7⟩⟩ := HKA.out _ (ftg GR.out)
      obtain ⟨r0, r1, r2, r3, r4, r5, r6, r7, r8, r9, r10, r11⟩ := HX5.out _ (f5g GR.out)
      obtain ⟨m0, m1, m2, m3, m4, m5, m6, m7, m8⟩ := en_cells GR.out.eb
      simp only at m0 m1 m2 m3 m4 m5 m6 m7 m8
      have mf := GR.out.eb.frozen
      go_wp2_with fail
      refine (pick_any GR.out.tp (by omega) hIL (Nat.lt_of_lt_of_le htl (f0s))).mono ?_
      rintro r v8 ⟨z, rfl, hz, k2, j1, j2, hT, hF⟩
      replace GR := Lib.hid (GR.out.tape hT hF hneE)
      clear hT hF hIL
      clear e0 e1 e2 e3 e4 e5 e6 e7 e8 e9 s0 s1 s2 s3 s4 s5 s6 s7 r0 r1 r2 r3 r4 r5 r6 r7 r8 r9 r10 r11 m0 m1 m2 m3 m4 m5 m6 m7 m8 mf
      obtain ⟨⟨e0, e1, e2, e3, e4, e5, e6, e7, e8, e9⟩, ⟨s0, s1, s2, s3, s4, s5, s6, s7⟩⟩ := HKA.out _ (ftg GR.out)
      obtain ⟨r0, r1, r2, r3, r4, r5, r6, r7, r8, r9, r10, r11⟩ := HX5.out _ (f5g GR.out)
      obtain ⟨m0, m1, m2, m3, m4, m5, m6, m7, m8⟩ := en_cells GR.out.eb
      simp only at m0 m1 m2 m3 m4 m5 m6 m7 m8
      have mf := GR.out.eb.frozen
      go_wp2_with fail
      go_meet
      exact ⟨_, k2, GrS.put4 GR.out hlow hgE hneE _ (okI_of (m := 17) (by (try dsimp only); omega) (by (try dsimp only); omega) (by decide)) trivial, by omega, by omega, (fun h => by have := j0 h; omega), rfl⟩
    have hP := hcut
    clear hcut
    clear e0 e1 e2 e3 e4 e5 e6 e7 e8 e9 s0 s1 s2 s3 s4 s5 s6 s7 r0 r1 r2 r3 r4 r5 r6 r7 r8 r9 r10 r11 m0 m1 m2 m3 m4 m5 m6 m7 m8 mf
    obtain ⟨⟨kd, et, tn, cl, ot, ep, fm, un, n⟩, kk, gr, ka, kb, j0, htn⟩ := hP
    simp only at htn
    subst htn
    replace GR := Lib.hid gr
    clear gr
    obtain ⟨⟨e0, e1, e2, e3, e4, e5, e6, e7, e8, e9⟩, ⟨s0, s1, s2, s3, s4, s5, s6, s7⟩⟩ := HKA.out _ (ftg GR.out)
    obtain ⟨r0, r1, r2, r3, r4, r5, r6, r7, r8, r9, r10, r11⟩ := HX5.out _ (f5g GR.out)
    obtain ⟨m0, m1, m2, m3, m4, m5, m6, m7, m8⟩ := en_cells GR.out.eb
    simp only at m0 m1 m2 m3 m4 m5 m6 m7 m8
    have mf := GR.out.eb.frozen
    have hT9 := EnTo.fill (w := w) (k0 := k) (d := 24) (q := g3) GR.out hb0 hlow hgE hg3 hne3t ⟨by omega, by omega, (fun h => by have := j0 h; omega)⟩
    have h3f := H3.out _ (ftg GR.out)
    have hT8 := en_fill (q := g3) (⟨kd, et, (i : Int), cl, ot, ep, fm, un, n⟩ : En) rfl h3f
    obtain ⟨y0, y1, y2, y3, y4, y5, y6, y7, y8⟩ := en_cells (e := (⟨0, 0, 0, 0, 0, 0, 0, 0, 0⟩ : En)) h3f
    simp only at y0 y1 y2 y3 y4 y5 y6 y7 y8
    have q0 := h3f.frozen 0
    have q1 := h3f.frozen 1
    have q2 := h3f.frozen 2
    have q3 := h3f.frozen 3
    have q4 := h3f.frozen 4
    have q5 := h3f.frozen 5
    have q6 := h3f.frozen 6
    have q7 := h3f.frozen 7
    have q8 := h3f.frozen 8
    clear h3f
    have HT9 := Lib.hid hT9
    have HT8 := Lib.hid hT8
    clear hT9 hT8
    go_wp2_with fail
    exact bodyPost_ret (v := .agg (EnArr ⟨kd, et, (i : Int), cl, ot, ep, fm, un, n⟩)) (entrym_results ⟨kd, et, (i : Int), cl, ot, ep, fm, un, n⟩ g3 _ _ HT8.out rfl) rfl HT9.out
  · go_wp2_with fail
    refine (nonem_any _ _ _).mono ?_
    rintro r v4 ⟨rfl, f4⟩
    go_upto_region 15 with fail
    obtain ⟨w6, hw6⟩ : ∃ w6, w6 = v4.alloc (.cells (EnArr ⟨2, tick2, -1, -1, -1, 0, 0, 0, 0⟩) TEm) := ⟨_, rfl⟩
    obtain ⟨gE, hgE0⟩ : ∃ gE, gE = v4.heap.size := ⟨_, rfl⟩
    have f6 : Fr No v4 w6 := by rw [hw6]; exact fr_alloc _ _
    have f56 := f4.transNo f6
    have hs4 := f4.size
    have hs5 := (FT.out).size
    have h3w := (H3.out w5 FT.out).lt
    have hxw := gxl
    have hgE : w.heap.size ≤ gE := by omega
    have hneE : gE ≠ t := by have := HT.out.blk.lt; omega
    have hne3 : g3 ≠ gE := by omega
    have gr0 : GrS w6 t gE A nl cp (fun _ => True) w6 k2 ⟨2, tick2, -1, -1, -1, 0, 0, 0, 0⟩ := ⟨by rw [hw6, hgE0]; exact Blk.new _ _ _, ⟨okI_lit _, htk2, okI_lit _, okI_lit _, okI_lit _, okI_lit _, okI_lit _, okI_lit _, okI_lit _⟩, trivial, HT.out.frNo f56, Fr.refl _ _⟩
    have hb5 : Fr (fun i => i = t) w5 w6 := f56.mono (fun _ h => h.elim)
    have hb3 : Fr (fun i => i = t) w3 w6 := FT.out.trans hb5 (fun i hi => .inl hi)
    have hb0 : Fr (fun i => i = t) w w6 := fWt.trans hb3 (fun i hi => .inl hi)
    have hg5 : w5.heap.size ≤ gE := by omega
    have hg3' : w3.heap.size ≤ gE := by have := FT.out.size; omega
    have ftg : ∀ {V k' e'}, GrS w6 t gE A nl cp (fun _ => True) V k' e' → Fr (fun i => i = t) w3 V := fun h => hb3.trans h.fr (fun i hi => by rcases hi with hi | hi; exact .inl hi; exact .inr (by omega))
    have f5g : ∀ {V k' e'}, GrS w6 t gE A nl cp (fun _ => True) V k' e' → Fr (fun i => i = t) w5 V := fun h => hb5.trans h.fr (fun i hi => by rcases hi with hi | hi; exact .inl hi; exact .inr (by omega))
    have f0g : ∀ {V k' e'}, GrS w6 t gE A nl cp (fun _ => True) V k' e' → Fr (fun i => i = t) w V := fun h => hb0.trans h.fr (fun i hi => by rcases hi with hi | hi; exact .inl hi; exact .inr (by omega))
    rw [← hw6, ← hgE0]
    have GR := Lib.hid gr0
    clear gr0 hw6 hgE0 f6 f56 f4 r0 r1 r2 r3 r4 r5 r6 r7 r8 r9 r10 r11
    clear e0 e1 e2 e3 e4 e5 e6 e7 e8 e9 s0 s1 s2 s3 s4 s5 s6 s7
    obtain ⟨⟨e0, e1, e2, e3, e4, e5, e6, e7, e8, e9⟩, ⟨s0, s1, s2, s3, s4, s5, s6, s7⟩⟩ := HKA.out _ (ftg GR.out)
    obtain ⟨r0, r1, r2, r3, r4, r5, r6, r7, r8, r9, r10, r11⟩ := HX5.out _ (f5g GR.out)
    obtain ⟨m0, m1, m2, m3, m4, m5, m6, m7, m8⟩ := en_cells GR.out.eb
    simp only at m0 m1 m2 m3 m4 m5 m6 m7 m8
    have mf := GR.out.eb.frozen
    go_upto_region 15 with fail
    go_cut [] from 71 to 72 (fun wx => (∃ e' k', GrS w6 t gE A nl cp (fun _ => True) wx k' e' ∧ k ≤ k' ∧ k' ≤ k + 4 ∧ (0 < nl → k < k') ∧ e'.tenant = (i : Int)))
    case first =>
      go_wp2_with fail
      go_meet
      exact ⟨_, k2, GrS.put2 GR.out hlow hgE hneE _ (okI_of (m := 17) (by (try dsimp only); omega) (by (try dsimp only); omega) (by decide)) trivial, by omega, by omega, (fun h => by have := j0 h; omega), rfl⟩
    have hP := hcut
    clear hcut
    clear e0 e1 e2 e3 e4 e5 e6 e7 e8 e9 s0 s1 s2 s3 s4 s5 s6 s7 r0 r1 r2 r3 r4 r5 r6 r7 r8 r9 r10 r11 m0 m1 m2 m3 m4 m5 m6 m7 m8 mf
    obtain ⟨⟨kd, et, tn, cl, ot, ep, fm, un, n⟩, kk, gr, ka, kb, j0, htn⟩ := hP
    simp only at htn
    subst htn
    replace GR := Lib.hid gr
    clear gr
    obtain ⟨⟨e0, e1, e2, e3, e4, e5, e6, e7, e8, e9⟩, ⟨s0, s1, s2, s3, s4, s5, s6, s7⟩⟩ := HKA.out _ (ftg GR.out)
    obtain ⟨r0, r1, r2, r3, r4, r5, r6, r7, r8, r9, r10, r11⟩ := HX5.out _ (f5g GR.out)
    obtain ⟨m0, m1, m2, m3, m4, m5, m6, m7, m8⟩ := en_cells GR.out.eb
    simp only at m0 m1 m2 m3 m4 m5 m6 m7 m8
    have mf := GR.out.eb.frozen
    go_wp2_with fail
    refine (next_q GR.out.tp (by omega) _ (by decide) (by decide)).mono ?_
    rintro r v9 ⟨y, rfl, y1, y2, k3, j4, j5, hT, hF⟩
    replace GR := Lib.hid (GR.out.tape hT hF hneE)
    clear hT hF
    clear e0 e1 e2 e3 e4 e5 e6 e7 e8 e9 s0 s1 s2 s3 s4 s5 s6 s7 r0 r1 r2 r3 r4 r5 r6 r7 r8 r9 r10 r11 m0 m1 m2 m3 m4 m5 m6 m7 m8 mf
    obtain ⟨⟨e0, e1, e2, e3, e4, e5, e6, e7, e8, e9⟩, ⟨s0, s1, s2, s3, s4, s5, s6, s7⟩⟩ := HKA.out _ (ftg GR.out)
    obtain ⟨r0, r1, r2, r3, r4, r5, r6, r7, r8, r9, r10, r11⟩ := HX5.out _ (f5g GR.out)
    obtain ⟨m0, m1, m2, m3, m4, m5, m6, m7, m8⟩ := en_cells GR.out.eb
    simp only at m0 m1 m2 m3 m4 m5 m6 m7 m8
    have mf := GR.out.eb.frozen
    go_upto_block 0 with fail
    go_cut [] from 75 to 124 (fun wx => (∃ e' k', GrS w6 t gE A nl cp (fun _ => True) wx k' e' ∧ k ≤ k' ∧ k' ≤ k + 6 ∧ (0 < nl → k < k') ∧ e'.tenant = (i : Int)))
    case first =>
      rcases (show y = 0 ∨ y = 1 ∨ y = 2 ∨ y = 3 ∨ y = 4 ∨ y = 5 ∨ (6 ≤ y ∧ y ≤ 11) from by omega) with rfl | rfl | rfl | rfl | rfl | rfl | hy
      · go_upto_region 19 with fail
        go_region
        all_goals (try go_wp2_with fail)
        all_goals go_meet
        all_goals first
          | exact ⟨_, k3, (GrS.frNo ((GrS.put5 (GrS.put0 GR.out hlow hgE hneE _ (okI_lit _) trivial) hlow hgE hneE _ (by first | exact okI_lit 1 | exact HTO.out.nu.1 | exact okI_max (okI_lit 1) HTO.out.nu.1) trivial)) (Fr.refl No _).drew), by omega, by omega, (fun h => by have := j0 h; omega), rfl⟩
          | exact ⟨_, k3, (GrS.put5 (GrS.put0 GR.out hlow hgE hneE _ (okI_lit _) trivial) hlow hgE hneE _ (by first | exact okI_lit 1 | exact HTO.out.nu.1 | exact okI_max (okI_lit 1) HTO.out.nu.1) trivial), by omega, by omega, (fun h => by have := j0 h; omega), rfl⟩
      · go_wp2_with fail
        refine (HSB.out _ (f0g GR.out) _ _).mono ?_
        rintro r v7 ⟨vl, rfl, hIL⟩
        have f0s := (f0g GR.out).size
        replace GR := Lib.hid (GR.out.frNo hIL.frame)
        clear e0 e1 e2 e3 e4 e5 e6 e7 e8 e9 s0 s1 s2 s3 s4 s5 s6 s7 r0 r1 r2 r3 r4 r5 r6 r7 r8 r9 r10 r11 m0 m1 m2 m3 m4 m5 m6 m7 m8 mf
        obtain ⟨⟨e0, e1, e2, e3, e4, e5, e6, e7, e8, e9⟩, ⟨s0, s1, s2, s3, s4, s5, s6, s7⟩⟩ := HKA.out _ (ftg GR.out)
        obtain ⟨r0, r1, r2, r3, r4, r5, r6, r7, r8, r9, r10, r11⟩ := HX5.out _ (f5g GR.out)
        obtain ⟨m0, m1, m2, m3, m4, m5, m6, m7, m8⟩ := en_cells GR.out.eb
        simp only at m0 m1 m2 m3 m4 m5 m6 m7 m8
        have mf := GR.out.eb.frozen
        go_wp2_with fail
        refine (pick_any GR.out.tp (by omega) hIL (Nat.lt_of_lt_of_le htl (f0s))).mono ?_
        rintro r v8 ⟨z, rfl, hz, k4, j6, j7, hT, hF⟩
        replace GR := Lib.hid (GR.out.tape hT hF hneE)
        clear hT hF hIL
        clear e0 e1 e2 e3 e4 e5 e6 e7 e8 e9 s0 s1 s2 s3 s4 s5 s6 s7 r0 r1 r2 r3 r4 r5 r6 r7 r8 r9 r10 r11 m0 m1 m2 m3 m4 m5 m6 m7 m8 mf
        obtain ⟨⟨e0, e1, e2, e3, e4, e5, e6, e7, e8, e9⟩, ⟨s0, s1, s2, s3, s4, s5, s6, s7⟩⟩ := HKA.out _ (ftg GR.out)
        obtain ⟨r0, r1, r2, r3, r4, r5, r6, r7, r8, r9, r10, r11⟩ := HX5.out _ (f5g GR.out)
        obtain ⟨m0, m1, m2, m3, m4, m5, m6, m7, m8⟩ := en_cells GR.out.eb
        simp only at m0 m1 m2 m3 m4 m5 m6 m7 m8
        have mf := GR.out.eb.frozen
        all_goals (try go_wp2_with fail)
        all_goals go_meet
        all_goals exact ⟨_, k4, (GrS.put3 (GrS.put0 GR.out hlow hgE hneE _ (okI_lit _) trivial) hlow hgE hneE _ (okI_of (m := 17) (by (try dsimp only); omega) (by (try dsimp only); omega) (by decide)) trivial), by omega, by omega, (fun h => by have := j0 h; omega), rfl⟩
      · have hnx2 := HTO.out.nx
        simp only at hnx2
        go_upto_region 23 with fail
        go_region
        all_goals (try go_wp2_with fail)
        all_goals go_meet
        all_goals first
          | exact ⟨_, k3, (GrS.frNo ((GrS.put3 (GrS.put0 GR.out hlow hgE hneE _ (okI_lit _) trivial) hlow hgE hneE _ (by first | exact okI_lit 0 | exact okI_of (m := 17) (by omega) (by omega) (by decide) | exact okI_max (okI_lit 0) (okI_of (m := 17) (by omega) (by omega) (by decide))) trivial)) (Fr.refl No _).drew), by omega, by omega, (fun h => by have := j0 h; omega), rfl⟩
          | exact ⟨_, k3, (GrS.put3 (GrS.put0 GR.out hlow hgE hneE _ (okI_lit _) trivial) hlow hgE hneE _ (by first | exact okI_lit 0 | exact okI_of (m := 17) (by omega) (by omega) (by decide) | exact okI_max (okI_lit 0) (okI_of (m := 17) (by omega) (by omega) (by decide))) trivial), by omega, by omega, (fun h => by have := j0 h; omega), rfl⟩
      · go_wp2_with fail
        refine (HHM.out _ (f0g GR.out) _).mono ?_
        rintro r v7 ⟨vl, rfl, hIL⟩
        have f0s := (f0g GR.out).size
        replace GR := Lib.hid (GR.out.frNo hIL.frame)
        clear e0 e1 e2 e3 e4 e5 e6 e7 e8 e9 s0 s1 s2 s3 s4 s5 s6 s7 r0 r1 r2 r3 r4 r5 r6 r7 r8 r9 r10 r11 m0 m1 m2 m3 m4 m5 m6 m7 m8 mf
        obtain ⟨⟨e0, e1, e2, e3, e4, e5, e6, e7, e8, e9⟩, ⟨s0, s1, s2, s3, s4, s5, s6, s7⟩⟩ := HKA.out _ (ftg GR.out)
        obtain ⟨r0, r1, r2, r3, r4, r5, r6, r7, r8, r9, r10, r11⟩ := HX5.out _ (f5g GR.out)
        obtain ⟨m0, m1, m2, m3, m4, m5, m6, m7, m8⟩ := en_cells GR.out.eb
        simp only at m0 m1 m2 m3 m4 m5 m6 m7 m8
        have mf := GR.out.eb.frozen
        go_wp2_with fail
        refine (pick_any GR.out.tp (by omega) hIL (Nat.lt_of_lt_of_le htl (f0s))).mono ?_
        rintro r v8 ⟨z, rfl, hz, k4, j6, j7, hT, hF⟩
        replace GR := Lib.hid (GR.out.tape hT hF hneE)
        clear hT hF hIL
        clear e0 e1 e2 e3 e4 e5 e6 e7 e8 e9 s0 s1 s2 s3 s4 s5 s6 s7 r0 r1 r2 r3 r4 r5 r6 r7 r8 r9 r10 r11 m0 m1 m2 m3 m4 m5 m6 m7 m8 mf
        obtain ⟨⟨e0, e1, e2, e3, e4, e5, e6, e7, e8, e9⟩, ⟨s0, s1, s2, s3, s4, s5, s6, s7⟩⟩ := HKA.out _ (ftg GR.out)
        obtain ⟨r0, r1, r2, r3, r4, r5, r6, r7, r8, r9, r10, r11⟩ := HX5.out _ (f5g GR.out)
        obtain ⟨m0, m1, m2, m3, m4, m5, m6, m7, m8⟩ := en_cells GR.out.eb
        simp only at m0 m1 m2 m3 m4 m5 m6 m7 m8
        have mf := GR.out.eb.frozen
        all_goals (try go_wp2_with fail)
        all_goals go_meet
        all_goals exact ⟨_, k4, (GrS.put3 (GrS.put0 GR.out hlow hgE hneE _ (okI_lit _) trivial) hlow hgE hneE _ (by first | exact okI_lit 0 | exact okI_of (m := 17) (by omega) (by omega) (by decide) | exact okI_max (okI_lit 0) (okI_of (m := 17) (by omega) (by omega) (by decide))) trivial), by omega, by omega, (fun h => by have := j0 h; omega), rfl⟩
      · all_goals (try go_wp2_with fail)
        all_goals go_meet
        exact ⟨_, k3, GrS.put0 GR.out hlow hgE hneE _ (okI_lit _) trivial, by omega, by omega, (fun h => by have := j0 h; omega), rfl⟩
      · rcases sh with _ | _
        · all_goals (try go_wp2_with fail)
          all_goals go_meet
          exact ⟨_, k3, (GrS.put8 (GrS.put0 GR.out hlow hgE hneE _ (okI_lit _) trivial) hlow hgE hneE _ (okI_lit _) trivial), by omega, by omega, (fun h => by have := j0 h; omega), rfl⟩
        · all_goals (try go_wp2_with fail)
          all_goals go_meet
          exact ⟨_, k3, (GrS.put8 (GrS.put8 (GrS.put0 GR.out hlow hgE hneE _ (okI_lit _) trivial) hlow hgE hneE _ (okI_lit _) trivial) hlow hgE hneE _ (okI_lit _) trivial), by omega, by omega, (fun h => by have := j0 h; omega), rfl⟩
      · obtain ⟨hy1, hy2⟩ := hy
        have c0 : (y == 0) = false := by simp; omega
        have c1 : (y == 1) = false := by simp; omega
        have c2 : (y == 2) = false := by simp; omega
        have c3 : (y == 3) = false := by simp; omega
        have c4 : (y == 4) = false := by simp; omega
        have c5 : (y == 5) = false := by simp; omega
        go_wp2_with fail
        refine (HGR.out _ (f0g GR.out) _ GR.out.tp (by omega) ⟨kd, et, (i : Int), cl, ot, ep, fm, un, n⟩ GR.out.ok (by show (0 : Int) ≤ (i : Int); omega) (by show (i : Int) < (mt : Int); omega) (fun b hb => by
          injection hb with hb
          injection hb with hb
          rw [← hb]
          exact ((f5g GR.out).cell (p := ⟨bt, i * 12, none⟩) hbl5 hptl).trans hpl5)).mono ?_
        rintro r v ⟨⟨akd, aet, atn, acl, aot, aep, afm, aun, an⟩, rfl, hok, k4, j6, j7, hT, hF⟩
        have FT := Lib.hid ((ftg GR.out).transSame hF)
        have HT := Lib.hid hT
        clear hT hF
        clear e0 e1 e2 e3 e4 e5 e6 e7 e8 e9 s0 s1 s2 s3 s4 s5 s6 s7 r0 r1 r2 r3 r4 r5 r6 r7 r8 r9 r10 r11 m0 m1 m2 m3 m4 m5 m6 m7 m8 mf
        obtain ⟨⟨e0, e1, e2, e3, e4, e5, e6, e7, e8, e9⟩, ⟨s0, s1, s2, s3, s4, s5, s6, s7⟩⟩ := HKA.out _ FT.out
        have hT9 := EnTo.box (q := g3) (k0 := k) (d := 24) hok HT.out (fWt.trans FT.out (fun i hi => .inl hi)) hlow hg3 hne3t ⟨by omega, by omega, (fun h => by have := j0 h; omega)⟩
        have h3f := H3.out _ FT.out
        have hT8 := en_fill (q := g3) ⟨akd, aet, atn, acl, aot, aep, afm, aun, an⟩ rfl h3f
        obtain ⟨y0, y1, y2, y3, y4, y5, y6, y7, y8⟩ := en_cells (e := (⟨0, 0, 0, 0, 0, 0, 0, 0, 0⟩ : En)) h3f
        simp only at y0 y1 y2 y3 y4 y5 y6 y7 y8
        have q0 := h3f.frozen 0
        have q1 := h3f.frozen 1
        have q2 := h3f.frozen 2
        have q3 := h3f.frozen 3
        have q4 := h3f.frozen 4
        have q5 := h3f.frozen 5
        have q6 := h3f.frozen 6
        have q7 := h3f.frozen 7
        have q8 := h3f.frozen 8
        clear h3f hok
        have HT9 := Lib.hid hT9
        have HT8 := Lib.hid hT8
        clear hT9 hT8
        go_wp2_with fail
        exact bodyPost_ret (v := .agg (EnArr ⟨akd, aet, atn, acl, aot, aep, afm, aun, an⟩)) (entrym_results ⟨akd, aet, atn, acl, aot, aep, afm, aun, an⟩ g3 _ _ HT8.out rfl) rfl HT9.out
    have hP := hcut
    clear hcut
    clear e0 e1 e2 e3 e4 e5 e6 e7 e8 e9 s0 s1 s2 s3 s4 s5 s6 s7 r0 r1 r2 r3 r4 r5 r6 r7 r8 r9 r10 r11 m0 m1 m2 m3 m4 m5 m6 m7 m8 mf
    obtain ⟨⟨kd, et, tn, cl, ot, ep, fm, un, n⟩, kk, gr, ka, kb, j0, htn⟩ := hP
    simp only at htn
    subst htn
    replace GR := Lib.hid gr
    clear gr
    obtain ⟨⟨e0, e1, e2, e3, e4, e5, e6, e7, e8, e9⟩, ⟨s0, s1, s2, s3, s4, s5, s6, s7⟩⟩ := HKA.out _ (ftg GR.out)
    obtain ⟨r0, r1, r2, r3, r4, r5, r6, r7, r8, r9, r10, r11⟩ := HX5.out _ (f5g GR.out)
    obtain ⟨m0, m1, m2, m3, m4, m5, m6, m7, m8⟩ := en_cells GR.out.eb
    simp only at m0 m1 m2 m3 m4 m5 m6 m7 m8
    have mf := GR.out.eb.frozen
    have hT9 := EnTo.fill (w := w) (k0 := k) (d := 24) (q := g3) GR.out hb0 hlow hgE hg3 hne3t ⟨by omega, by omega, (fun h => by have := j0 h; omega)⟩
    have h3f := H3.out _ (ftg GR.out)
    have hT8 := en_fill (q := g3) (⟨kd, et, (i : Int), cl, ot, ep, fm, un, n⟩ : En) rfl h3f
    obtain ⟨y0, y1, y2, y3, y4, y5, y6, y7, y8⟩ := en_cells (e := (⟨0, 0, 0, 0, 0, 0, 0, 0, 0⟩ : En)) h3f
    simp only at y0 y1 y2 y3 y4 y5 y6 y7 y8
    have q0 := h3f.frozen 0
    have q1 := h3f.frozen 1
    have q2 := h3f.frozen 2
    have q3 := h3f.frozen 3
    have q4 := h3f.frozen 4
    have q5 := h3f.frozen 5
    have q6 := h3f.frozen 6
    have q7 := h3f.frozen 7
    have q8 := h3f.frozen 8
    clear h3f
    have HT9 := Lib.hid hT9
    have HT8 := Lib.hid hT8
    clear hT9 hT8
    go_wp2_with fail
    exact bodyPost_ret (v := .agg (EnArr ⟨kd, et, (i : Int), cl, ot, ep, fm, un, n⟩)) (entrym_results ⟨kd, et, (i : Int), cl, ot, ep, fm, un, n⟩ g3 _ _ HT8.out rfl) rfl HT9.out
end Go.Proofs.YtanhbebikcoliaaDoor
