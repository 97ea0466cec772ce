/-
  Config.
-/
import Derived.Test.YtanhbebikcoliaaDoorG13
namespace Go.Proofs.YtanhbebikcoliaaDoor
open Go.ChangeShapes Go.WideShapes Go.ChangeAt Go.RowKit
set_option linter.unusedVariables false
def ConfTo (w : World) (e : Ending) (w' : World) : Prop := ∃ c : Cf, e = .returned (.agg c.arr) ∧ (∀ (F : Nat → Prop) V, Fr F w' V → (∀ i, F i → i < w.heap.size) → CfOk V c) ∧ Fr No w w'
theorem between_q (v low high : Int) (w : World) (h1 : low ≤ high) (h2 : -1152921504606846976 ≤ low) (h3 : high ≤ 1152921504606846976) :
    Calls Tryd.prog 12 #[.int .i64 v, .int .i64 low, .int .i64 high] w fun e w' => ∃ z : Int, e = .returned (.int .i64 z) ∧ low ≤ z ∧ z ≤ high ∧ w = w' := by
  refine (between_any v low high w h1 h2 h3).mono ?_
  rintro e w' ⟨rfl, rfl⟩
  have b1 := Int.emod_nonneg v (b := high - low + 1) (by omega)
  have b2 := Int.emod_lt_of_pos v (b := high - low + 1) (by omega)
  exact ⟨_, rfl, by omega, by omega, rfl⟩
theorem cf_fill {W : World} {q : Nat} (v : Cv) (h : Blk W q TCf #[.int .i64 0, .slice none 0 0, .slice none 0 0, .slice none 0 0, .slice none 0 0, .slice none 0 0, .slice none 0 0, .int .i64 0, .int .i64 0, .int .i64 0]) : Blk (World.setCell (World.setCell (World.setCell (World.setCell (World.setCell (World.setCell (World.setCell (World.setCell (World.setCell (World.setCell W ⟨q, 0, none⟩ (.int .i64 (v.rg : Int))) ⟨q, 1, none⟩ (.slice v.Az v.nz v.cz)) ⟨q, 2, none⟩ (.slice v.Ac v.nc v.cc)) ⟨q, 3, none⟩ (.slice v.At v.nt v.ct)) ⟨q, 4, none⟩ (.slice v.Av v.nv v.cv)) ⟨q, 5, none⟩ (.slice v.Ar v.nr v.cr)) ⟨q, 6, none⟩ (.slice v.Ao v.no_ v.co)) ⟨q, 7, none⟩ (.int .i64 v.bl)) ⟨q, 8, none⟩ (.int .i64 (v.le : Int))) ⟨q, 9, none⟩ (.int .i64 (v.bk : Int))) q TCf v.arr ∧ Fr (fun i => i = q) W (World.setCell (World.setCell (World.setCell (World.setCell (World.setCell (World.setCell (World.setCell (World.setCell (World.setCell (World.setCell W ⟨q, 0, none⟩ (.int .i64 (v.rg : Int))) ⟨q, 1, none⟩ (.slice v.Az v.nz v.cz)) ⟨q, 2, none⟩ (.slice v.Ac v.nc v.cc)) ⟨q, 3, none⟩ (.slice v.At v.nt v.ct)) ⟨q, 4, none⟩ (.slice v.Av v.nv v.cv)) ⟨q, 5, none⟩ (.slice v.Ar v.nr v.cr)) ⟨q, 6, none⟩ (.slice v.Ao v.no_ v.co)) ⟨q, 7, none⟩ (.int .i64 v.bl)) ⟨q, 8, none⟩ (.int .i64 (v.le : Int))) ⟨q, 9, none⟩ (.int .i64 (v.bk : Int))) :=
  ⟨Blk.cv (Blk.set_ (Blk.set_ (Blk.set_ (Blk.set_ (Blk.set_ (Blk.set_ (Blk.set_ (Blk.set_ (Blk.set_ (Blk.set_ h 0 _) 1 _) 2 _) 3 _) 4 _) 5 _) 6 _) 7 _) 8 _) 9 _) (by simp only [Cv.arr, List.setIfInBounds_toArray, List.set_cons_zero, List.set_cons_succ]), (Fr.setCell (Fr.setCell (Fr.setCell (Fr.setCell (Fr.setCell (Fr.setCell (Fr.setCell (Fr.setCell (Fr.setCell (Fr.setCell (Fr.refl (fun i => i = q) W) (p := ⟨q, 0, none⟩) (.inl rfl) _) (p := ⟨q, 1, none⟩) (.inl rfl) _) (p := ⟨q, 2, none⟩) (.inl rfl) _) (p := ⟨q, 3, none⟩) (.inl rfl) _) (p := ⟨q, 4, none⟩) (.inl rfl) _) (p := ⟨q, 5, none⟩) (.inl rfl) _) (p := ⟨q, 6, none⟩) (.inl rfl) _) (p := ⟨q, 7, none⟩) (.inl rfl) _) (p := ⟨q, 8, none⟩) (.inl rfl) _) (p := ⟨q, 9, none⟩) (.inl rfl) _)⟩
theorem CfS.other {w w0 W W' : World} {t g B q : Nat} {A : Option Addr} {n cp k : Nat} {v : Cv} {cs : Array Value} (hfw : Fr No w w0) (h : CfS w0 t g B A n cp W k v) (hf : Fr (fun i => i = q) W W') (hz : Blk W q TCf cs) (hqg : q ≠ g) (hl : TpLow A n w.heap.size) (hq : w.heap.size ≤ q) : CfS w t g B A n cp W' k v := by
  obtain ⟨b, ⟨z, z1, z2⟩, ⟨c, c1, c2⟩, ⟨s, s1, s2⟩, ⟨u, u1, u2⟩, h1, h2, h3⟩ := h
  have hk : ∀ {F : Nat → Prop} {e : TypeId} {s m : Nat} {u : Value} {xs : List Value}, OwnN W F e s u m xs → e ≠ TCf → OwnN W' F e s u m xs := fun h hne => h.fr' hf fun b hb e => (h.ne_blk hz hne) b hb e
  exact ⟨b.fr hf (fun e => hqg e.symm), ⟨z, hk z1 (by decide), z2⟩, ⟨c, hk c1 (by decide), c2⟩, ⟨s, hk s1 (by decide), s2⟩, ⟨u, hk u1 (by decide), u2⟩, h1.type hf hl (fun i hi => by have hi : i = q := hi; subst hi; exact ⟨h1.ne hz (by decide), hq⟩), (hfw.transNo h2).transNew hf (fun i hi => by have hi : i = q := hi; omega), Nat.le_trans h3 hf.size⟩
theorem ConfTo.fill {w w0 W : World} {t g B q : Nat} {A : Option Addr} {n cp k : Nat} {v : Cv} (hfw : Fr No w w0) (hwB : w.heap.size ≤ B) (h : CfS w0 t g B A n cp W k v) (hq : w.heap.size ≤ q) (hqg : q ≠ g) (hl : TpLow A n w.heap.size) (hz : Blk W q TCf #[.int .i64 0, .slice none 0 0, .slice none 0 0, .slice none 0 0, .slice none 0 0, .slice none 0 0, .slice none 0 0, .int .i64 0, .int .i64 0, .int .i64 0])
    (hrg : 1 ≤ v.rg ∧ v.rg ≤ 3) (hnz : 1 ≤ v.nz ∧ v.nz ≤ 16) (hnc : 1 ≤ v.nc ∧ v.nc ≤ 16) (hnt : v.nt ≤ 16) (hnv : 1 ≤ v.nv ∧ v.nv ≤ 16) (hle : 2 ≤ v.le ∧ v.le ≤ 12) (hbk : v.bk ≤ 8) : ConfTo w (.returned (.agg v.arr)) (World.setCell (World.setCell (World.setCell (World.setCell (World.setCell (World.setCell (World.setCell (World.setCell (World.setCell (World.setCell W ⟨q, 0, none⟩ (.int .i64 (v.rg : Int))) ⟨q, 1, none⟩ (.slice v.Az v.nz v.cz)) ⟨q, 2, none⟩ (.slice v.Ac v.nc v.cc)) ⟨q, 3, none⟩ (.slice v.At v.nt v.ct)) ⟨q, 4, none⟩ (.slice v.Av v.nv v.cv)) ⟨q, 5, none⟩ (.slice v.Ar v.nr v.cr)) ⟨q, 6, none⟩ (.slice v.Ao v.no_ v.co)) ⟨q, 7, none⟩ (.int .i64 v.bl)) ⟨q, 8, none⟩ (.int .i64 (v.le : Int))) ⟨q, 9, none⟩ (.int .i64 (v.bk : Int))) := by
  have h' := h.other hfw (cf_fill v hz).2 hz hqg hl hq
  obtain ⟨c, e1, hc⟩ := h'.done hrg hnz hnc hnt hnv hle hbk
  exact ⟨c, by rw [e1], fun F V hF hFB => hc F V hF (fun i hi => Nat.lt_of_lt_of_le (hFB i hi) hwB), h'.fr⟩
theorem config_results (v : Cv) (g : Nat) (ts : Array Value) (W : World) (hb : Blk W g TCf v.arr) (h2 : ts[2]?.getD undef = .pointer (some ⟨g, 0, none⟩)) :
    (results Tryd.f23 ts).run Tryd.prog W = .ok (.agg v.arr) W := by
  have c0 := hb.cell 0
  have c1 := hb.cell 1
  have c2 := hb.cell 2
  have c3 := hb.cell 3
  have c4 := hb.cell 4
  have c5 := hb.cell 5
  have c6 := hb.cell 6
  have c7 := hb.cell 7
  have c8 := hb.cell 8
  have c9 := hb.cell 9
  clear hb
  simp at c0 c1 c2 c3 c4 c5 c6 c7 c8 c9
  simp [results, Tryd.results23, go_sem, h2, c0, c1, c2, c3, c4, c5, c6, c7, c8, c9]
theorem cf_cells {w : World} {g : Nat} {v : Cv} (h : Blk w g TCf v.arr) : w.cell? ⟨g, 0, none⟩ = some (.int .i64 (v.rg : Int)) ∧ w.cell? ⟨g, 1, none⟩ = some (.slice v.Az v.nz v.cz) ∧ w.cell? ⟨g, 2, none⟩ = some (.slice v.Ac v.nc v.cc) ∧ w.cell? ⟨g, 3, none⟩ = some (.slice v.At v.nt v.ct) ∧ w.cell? ⟨g, 4, none⟩ = some (.slice v.Av v.nv v.cv) ∧ w.cell? ⟨g, 5, none⟩ = some (.slice v.Ar v.nr v.cr) ∧ w.cell? ⟨g, 6, none⟩ = some (.slice v.Ao v.no_ v.co) ∧ w.cell? ⟨g, 7, none⟩ = some (.int .i64 v.bl) ∧ w.cell? ⟨g, 8, none⟩ = some (.int .i64 (v.le : Int)) ∧ w.cell? ⟨g, 9, none⟩ = some (.int .i64 (v.bk : Int)) := ⟨h.cell 0, h.cell 1, h.cell 2, h.cell 3, h.cell 4, h.cell 5, h.cell 6, h.cell 7, h.cell 8, h.cell 9⟩
set_option maxRecDepth 100000 in
set_option maxHeartbeats 8000000 in
theorem config_any {w : World} {A : Option Addr} {n cp : Nat} (hl : LsIn w A n) (hn : n ≤ 200) : Calls Tryd.prog 23 #[.slice A n cp] w (ConfTo w) := by
  obtain ⟨iz, zz, hiz, hz0z, hzsz, hz1z, hz2z⟩ := info_z zn_info
  obtain ⟨ic, zc, hic, hz0c, hzsc, hz1c, hz2c⟩ := info_z cl_info
  obtain ⟨it, zt, hit, hz0t, hzst, hz1t, hz2t⟩ := info_z tn_info
  obtain ⟨iv, zv, hiv, hz0v, hzsv, hz1v, hz2v⟩ := info_z vr_info
  obtain ⟨ii, zi, hii, hz0i, hzsi, hz1i, hz2i⟩ := info_z im_info
  have hnt := fun W (hf : Fr No w W) => newt_any (cp := cp) (hl.fr hf) hn
  have hlow : TpLow A n w.heap.size := fun b off i hA hi => by
    rcases hl with h | ⟨b', off', e1, e2, e3⟩
    · omega
    · rw [hA] at e1
      injection e1 with e1
      injection e1 with e1
      omega
  obtain ⟨w1, hw1⟩ : ∃ w1, w1 = w.alloc (.cells #[.int .i64 0, .slice none 0 0, .slice none 0 0, .slice none 0 0, .slice none 0 0, .slice none 0 0, .slice none 0 0, .int .i64 0, .int .i64 0, .int .i64 0] TCf) := ⟨_, rfl⟩
  obtain ⟨g1, hg1⟩ : ∃ g1, g1 = w.heap.size := ⟨_, rfl⟩
  have hb1 : Blk w1 g1 TCf #[.int .i64 0, .slice none 0 0, .slice none 0 0, .slice none 0 0, .slice none 0 0, .slice none 0 0, .slice none 0 0, .int .i64 0, .int .i64 0, .int .i64 0] := by rw [hw1, hg1]; exact Blk.new _ _ _
  have f1 : Fr No w w1 := by rw [hw1]; exact fr_alloc _ _
  have hs1 : w1.heap.size = g1 + 1 := by rw [hw1, hg1]; simp
  have hB1 : Blk w1 g1 TCf #[.int .i64 0, .slice none 0 0, .slice none 0 0, .slice none 0 0, .slice none 0 0, .slice none 0 0, .slice none 0 0, .int .i64 0, .int .i64 0, .int .i64 0] := hb1.fr (Fr.refl No _) (fun h => h)
  have fW : Fr No w w1 := (Fr.refl No w).transNo f1
  have hka : ∀ V, Fr No w1 V → (V.cell? ⟨g1, 0, none⟩ = some (.int .i64 0) ∧ V.cell? ⟨g1, 1, none⟩ = some (.slice none 0 0) ∧ V.cell? ⟨g1, 2, none⟩ = some (.slice none 0 0) ∧ V.cell? ⟨g1, 3, none⟩ = some (.slice none 0 0) ∧ V.cell? ⟨g1, 4, none⟩ = some (.slice none 0 0) ∧ V.cell? ⟨g1, 5, none⟩ = some (.slice none 0 0) ∧ V.cell? ⟨g1, 6, none⟩ = some (.slice none 0 0) ∧ V.cell? ⟨g1, 7, none⟩ = some (.int .i64 0) ∧ V.cell? ⟨g1, 8, none⟩ = some (.int .i64 0) ∧ V.cell? ⟨g1, 9, none⟩ = some (.int .i64 0)) := fun V hf => (let k := hB1.fr hf (fun h => h); ⟨k.cell 0, k.cell 1, k.cell 2, k.cell 3, k.cell 4, k.cell 5, k.cell 6, k.cell 7, k.cell 8, k.cell 9⟩)
  have hW : w1 = w.alloc (.cells #[.int .i64 0, .slice none 0 0, .slice none 0 0, .slice none 0 0, .slice none 0 0, .slice none 0 0, .slice none 0 0, .int .i64 0, .int .i64 0, .int .i64 0] TCf) := by rw [hw1]
  have hl1 : g1 < w1.heap.size := hB1.lt
  clear hw1 hb1 hs1
  have HG1 := Lib.hid hg1
  clear hg1
  have hg1w : w.heap.size ≤ g1 := by rw [HG1.out]; omega
  have hzb := fun V (hV : Fr No w1 V) => hB1.fr hV (fun h => h)
  have HNT := Lib.hid hnt
  have HKA := Lib.hid hka
  have HW := Lib.hid hW
  have HZB := Lib.hid hzb
  clear hnt hka hW hzb
  go_enter Tryd.func23, Tryd.ntmps23
  go_upto_region 1 with fail
  rw [← HW.out]
  try rw [← HG1.out]
  go_wp2_with fail
  refine (HNT.out _ fW).mono ?_
  rintro r v2 ⟨t, rfl, ht1, hT2, f2⟩
  have hwt : w1.heap.size ≤ t := ht1
  have hlow1 : TpLow A n w1.heap.size := fun b off i hA hi => Nat.lt_of_lt_of_le (hlow b off i hA hi) fW.size
  have f02 := fW.transNo f2
  have FT := Lib.hid (Fr.refl (fun i => i = t) v2)
  have HT := Lib.hid hT2
  clear hT2
  go_wp2_with fail
  refine (next_q HT.out (by omega) _ (by decide) (by decide)).mono ?_
  rintro r v ⟨x1, rfl, x1a, x1b, k1, j1_, j2_, hT, hF⟩
  replace HT := Lib.hid hT
  replace FT := Lib.hid (FT.out.transSame hF)
  clear hT hF
  go_wp2_with fail
  refine (between_q _ _ _ _ (by decide) (by decide) (by decide)).mono ?_
  rintro r v ⟨x2, rfl, x2a, x2b, rfl⟩
  go_wp2_with fail
  refine (range_any HT.out (by omega) _ _ (by decide) (by decide) (by decide)).mono ?_
  rintro r v ⟨x3, rfl, x3a, x3b, k2, j1_, j2_, hT, hF⟩
  replace HT := Lib.hid hT
  replace FT := Lib.hid (FT.out.transSame hF)
  clear hT hF
  go_wp2_with fail
  refine (range_any HT.out (by omega) _ _ (by decide) (by decide) (by decide)).mono ?_
  rintro r v ⟨x4, rfl, x4a, x4b, k3, j1_, j2_, hT, hF⟩
  replace HT := Lib.hid hT
  replace FT := Lib.hid (FT.out.transSame hF)
  clear hT hF
  go_wp2_with fail
  refine (next_q HT.out (by omega) _ (by decide) (by decide)).mono ?_
  rintro r v ⟨x5, rfl, x5a, x5b, k4, j1_, j2_, hT, hF⟩
  replace HT := Lib.hid hT
  replace FT := Lib.hid (FT.out.transSame hF)
  clear hT hF
  obtain ⟨rg, rfl⟩ : ∃ q : Nat, x2 = (q : Int) := ⟨x2.toNat, by omega⟩
  obtain ⟨le, rfl⟩ : ∃ q : Nat, x4 = (q : Int) := ⟨x4.toNat, by omega⟩
  obtain ⟨bk, rfl⟩ : ∃ q : Nat, x5 = (q : Int) := ⟨x5.toNat, by omega⟩
  go_upto_region 3 with fail
  obtain ⟨w3, hw3⟩ : ∃ w3, w3 = v.alloc (.cells (Cv.arr ⟨rg, le, bk, x3, none, 0, 0, none, 0, 0, none, 0, 0, none, 0, 0, none, 0, 0, none, 0, 0⟩) TCf) := ⟨_, rfl⟩
  obtain ⟨g4, hg4⟩ : ∃ g4, g4 = v.heap.size := ⟨_, rfl⟩
  have f3 : Fr No v w3 := by rw [hw3]; exact fr_alloc _ _
  have hv2v := FT.out.size
  have hv2w := f02.size
  have hg1v : g1 < v.heap.size := Nat.lt_of_lt_of_le hl1 (Nat.le_trans f2.size hv2v)
  have hg4w : w1.heap.size ≤ g4 := by have := f2.size; omega
  have hne : g1 ≠ g4 := by omega
  have hne1t : g1 ≠ t := by omega
  have f2v : Fr No w1 v := f2.transNew FT.out (fun i hi => by have hi : i = t := hi; omega)
  have htB : t < w3.heap.size := Nat.lt_of_lt_of_le HT.out.blk.lt f3.size
  have hc0 : CfS w1 t g4 w3.heap.size A n cp w3 k4 ⟨rg, le, bk, x3, none, 0, 0, none, 0, 0, none, 0, 0, none, 0, 0, none, 0, 0, none, 0, 0⟩ := ⟨by rw [hw3, hg4]; exact Blk.new _ _ _, ⟨[], OwnN.nil _ _ _ _, RowsP.nil _ _⟩, ⟨[], OwnN.nil _ _ _ _, RowsP.nil _ _⟩, ⟨[], OwnN.nil _ _ _ _, RowsP.nil _ _⟩, ⟨[], OwnN.nil _ _ _ _, RowsP.nil _ _⟩, HT.out.frNo f3, f2v.transNo f3, Nat.le_refl _⟩
  have hgB : g4 < w3.heap.size := hc0.box.lt
  have hwB : w1.heap.size ≤ w3.heap.size := Nat.le_trans f2v.size f3.size
  rw [← hw3, ← hg4]
  obtain ⟨B, hB⟩ : ∃ B, B = w3.heap.size := ⟨_, rfl⟩
  rw [← hB] at hc0 htB hgB hwB
  have HC0 := Lib.hid hc0
  clear hw3 hg4 f3 hB hc0 HT FT
  go_wp2_with fail
  go_loopw [5] (fun i wr => ∃ (j k : Nat) (Az : Option Addr) (cz : Nat), j ≤ 6 ∧ k + 10 * (7 - j) ≤ 100 ∧ i = .int .i64 (j : Int) ∧ CfS w1 t g4 B A n cp wr k ⟨rg, le, bk, x3, Az, j, cz, none, 0, 0, none, 0, 0, none, 0, 0, none, 0, 0, none, 0, 0⟩) (fun i _ => 7 - (intOf i).toNat)
  case atStart => exact ⟨0, k4, none, 0, by omega, by omega, rfl, HC0.out⟩
  clear HC0
  obtain ⟨j, k, Az, cz, hj, hk, rfl, hc⟩ := hrel
  have HC := Lib.hid hc
  clear hc
  obtain ⟨b0_, b1_, b2_, b3_, b4_, b5_, b6_, b7_, b8_, b9_⟩ := cf_cells HC.out.box
  simp only at b0_ b1_ b2_ b3_ b4_ b5_ b6_ b7_ b8_ b9_
  have bf_ := HC.out.box.frozen
  go_upto_region 4 with fail
  go_cut [38] from 27 to 50 (fun x wx => (∃ B : Bool, x = .bool B ∧ (B = true → j < 6) ∧ (B = false → rg ≤ j)) ∧ ∃ k', k ≤ k' ∧ k' ≤ k + 1 ∧ CfS w1 t g4 B A n cp wx k' ⟨rg, le, bk, x3, Az, j, cz, none, 0, 0, none, 0, 0, none, 0, 0, none, 0, 0, none, 0, 0⟩)
  case first =>
    by_cases h1 : (j : Int) < (rg : Int)
    · have d1 : decide ((j : Int) < (rg : Int)) = true := decide_eq_true h1
      go_wp2_with fail
      go_meet
      exact ⟨⟨_, rfl, fun _ => by omega, (fun h => by cases h)⟩, k, by omega, by omega, HC.out⟩
    · have d1 : decide ((j : Int) < (rg : Int)) = false := decide_eq_false h1
      go_wp2_with fail
      refine (yes_any HC.out.tp (by omega) _ (by decide) (by decide)).mono ?_
      rintro r v ⟨B2, rfl, k2, j1_, j2_, hT, hF⟩
      replace HC := Lib.hid (HC.out.tape hT hF hwt)
      clear hT hF
      clear b0_ b1_ b2_ b3_ b4_ b5_ b6_ b7_ b8_ b9_ bf_
      obtain ⟨b0_, b1_, b2_, b3_, b4_, b5_, b6_, b7_, b8_, b9_⟩ := cf_cells HC.out.box
      simp only at b0_ b1_ b2_ b3_ b4_ b5_ b6_ b7_ b8_ b9_
      have bf_ := HC.out.box.frozen
      rcases B2 with _ | _
      · go_wp2_with fail
        go_meet
        exact ⟨⟨_, rfl, (fun h => by cases h), fun _ => by omega⟩, k2, by omega, by omega, HC.out⟩
      · by_cases h2 : (j : Int) < 6
        · have d2 : decide ((j : Int) < 6) = true := decide_eq_true h2
          go_wp2_with fail
          go_meet
          exact ⟨⟨_, rfl, fun _ => by omega, (fun h => by cases h)⟩, k2, by omega, by omega, HC.out⟩
        · have d2 : decide ((j : Int) < 6) = false := decide_eq_false h2
          go_wp2_with fail
          go_meet
          exact ⟨⟨_, rfl, (fun h => by cases h), fun _ => by omega⟩, k2, by omega, by omega, HC.out⟩
  obtain ⟨⟨B0, rfl, hB1, hB2⟩, k2, hk1, hk2, hc⟩ := hcut
  clear b0_ b1_ b2_ b3_ b4_ b5_ b6_ b7_ b8_ b9_ bf_
  replace HC := Lib.hid hc
  clear hc
  obtain ⟨b0_, b1_, b2_, b3_, b4_, b5_, b6_, b7_, b8_, b9_⟩ := cf_cells HC.out.box
  simp only at b0_ b1_ b2_ b3_ b4_ b5_ b6_ b7_ b8_ b9_
  have bf_ := HC.out.box.frozen
  rcases B0 with _ | _
  rotate_left
  · have hlt := hB1 rfl
    have hne0 : ¬ (rg = 0) := by omega
    obtain ⟨qm, r1, hmod⟩ : ∃ q : Nat, Int.tmod (j : Int) (rg : Int) = (q : Int) ∧ q < rg := ⟨j % rg, by rw [Int.tmod_eq_emod_of_nonneg (by omega)]; rfl, Nat.mod_lt _ (by omega)⟩
    have hl4 := HC.out.box.lt
    go_upto_block 1 with fail
    go_cut [] from 27 to 50 (fun wx => ∃ Az' cz', CfS w1 t g4 B A n cp wx k2 ⟨rg, le, bk, x3, Az', (j + 1), cz', none, 0, 0, none, 0, 0, none, 0, 0, none, 0, 0, none, 0, 0⟩)
    case first =>
      obtain ⟨xs, z1, z2⟩ := HC.out.rz
      have hown := fun V (hV : Fr No wc V) => z1.frNo hV
      have hap := fun V (hV : Fr No wc V) v' w' happ => CfS.app_z (v' := v') (w' := w') (HC.out.frNo hV) hwB htB hgB hg4w hlow1 (z1.frNo hV) z2 ⟨qm, hmod, rfl⟩ rfl happ
      have hxl := z1.1.1
      simp only at z1 hxl
      clear z1
      have HOWN := Lib.hid hown
      have HAP := Lib.hid hap
      have Z2 := Lib.hid z2
      clear hown hap z2
      go_upto_region 6 with fail
      go_region_law (refine step_append_rdN _ (by rfl) (.tmp 42) (.tmp 48) _ (by rfl) 0 TZn iz zz 1 8 Tryd.underlying27 hiz hz0z hz1z hz2z hzsz (by decide) (.slice Az j cz) j xs (by rfl) (HOWN.out _ (((Fr.refl No wc).drew).alloc _)).1 (wc.heap.size + 1) (some ⟨wc.heap.size, 0, none⟩) 1 1 [.int .i64 (qm : Int)] (by rfl) (fun h => by cases h) (Rd.new wc.drew _ TZn rfl) rfl (by simp [Value.oneCell']) (by unfold maxLen; omega) (by omega) (Nat.zero_le _) ?_; intro v1 w6 happ; obtain ⟨A1, c1, rfl, hbx, hc1⟩ := HAP.out _ (((Fr.refl No wc).drew).alloc _) _ _ happ; have x1_ : w6.cell? ⟨g4, 1, none⟩ = some (.slice Az j cz) := hbx.cell 1; have y1_ := hbx.frozen 1; have HC1 := Lib.hid hc1; clear happ hbx hc1)
      all_goals go_wp2_with fail
      all_goals go_meet
      all_goals exact ⟨_, _, HC1.out⟩
    obtain ⟨Az', cz', hc⟩ := hcut
    clear b0_ b1_ b2_ b3_ b4_ b5_ b6_ b7_ b8_ b9_ bf_
    have HC1 := Lib.hid hc
    clear hc
    go_wp2_with fail
    go_roundw
    case rel => exact ⟨j + 1, k2, _, _, by omega, by omega, by go_num, HC1.out⟩
    case measure => simp [intOf]; omega
  have hjr := hB2 rfl
  obtain ⟨m, rfl, hm1, hm2⟩ : ∃ m, j = m ∧ 1 ≤ m ∧ m ≤ 6 := ⟨j, rfl, by omega, hj⟩
  go_wp2_with fail
  clear b0_ b1_ b2_ b3_ b4_ b5_ b6_ b7_ b8_ b9_ bf_
  go_loopw [6] (fun iv wr => ∃ (i k : Nat) (Ac : Option Addr) (cc : Nat), i ≤ 7 ∧ k + 10 * (8 - i) ≤ 200 ∧ iv = .int .i64 (i : Int) ∧ CfS w1 t g4 B A n cp wr k ⟨rg, le, bk, x3, Az, j, cz, Ac, i, cc, none, 0, 0, none, 0, 0, none, 0, 0, none, 0, 0⟩) (fun i _ => 8 - (intOf i).toNat)
  case atStart => exact ⟨0, k2, none, 0, by omega, by omega, rfl, HC.out⟩
  clear HC
  obtain ⟨i, k, Ac, cc, hi, hk3, rfl, hc⟩ := hrel
  have HC := Lib.hid hc
  clear hc
  obtain ⟨b0_, b1_, b2_, b3_, b4_, b5_, b6_, b7_, b8_, b9_⟩ := cf_cells HC.out.box
  simp only at b0_ b1_ b2_ b3_ b4_ b5_ b6_ b7_ b8_ b9_
  have bf_ := HC.out.box.frozen
  go_upto_region 8 with fail
  go_cut [63] from 51 to 79 (fun x wx => (∃ B : Bool, x = .bool B ∧ (B = true → i < 7) ∧ (B = false → j ≤ i)) ∧ ∃ k', k ≤ k' ∧ k' ≤ k + 1 ∧ CfS w1 t g4 B A n cp wx k' ⟨rg, le, bk, x3, Az, j, cz, Ac, i, cc, none, 0, 0, none, 0, 0, none, 0, 0, none, 0, 0⟩)
  case first =>
    by_cases h1 : (i : Int) < (j : Int)
    · have d1 : decide ((i : Int) < (j : Int)) = true := decide_eq_true h1
      go_wp2_with fail
      go_meet
      exact ⟨⟨_, rfl, fun _ => by omega, (fun h => by cases h)⟩, k, by omega, by omega, HC.out⟩
    · have d1 : decide ((i : Int) < (j : Int)) = false := decide_eq_false h1
      go_wp2_with fail
      refine (yes_any HC.out.tp (by omega) _ (by decide) (by decide)).mono ?_
      rintro r v ⟨B2, rfl, k5, j1_, j2_, hT, hF⟩
      replace HC := Lib.hid (HC.out.tape hT hF hwt)
      clear hT hF
      clear b0_ b1_ b2_ b3_ b4_ b5_ b6_ b7_ b8_ b9_ bf_
      obtain ⟨b0_, b1_, b2_, b3_, b4_, b5_, b6_, b7_, b8_, b9_⟩ := cf_cells HC.out.box
      simp only at b0_ b1_ b2_ b3_ b4_ b5_ b6_ b7_ b8_ b9_
      have bf_ := HC.out.box.frozen
      rcases B2 with _ | _
      · go_wp2_with fail
        go_meet
        exact ⟨⟨_, rfl, (fun h => by cases h), fun _ => by omega⟩, k5, by omega, by omega, HC.out⟩
      · by_cases h2 : (i : Int) < 7
        · have d2 : decide ((i : Int) < 7) = true := decide_eq_true h2
          go_wp2_with fail
          go_meet
          exact ⟨⟨_, rfl, fun _ => by omega, (fun h => by cases h)⟩, k5, by omega, by omega, HC.out⟩
        · have d2 : decide ((i : Int) < 7) = false := decide_eq_false h2
          go_wp2_with fail
          go_meet
          exact ⟨⟨_, rfl, (fun h => by cases h), fun _ => by omega⟩, k5, by omega, by omega, HC.out⟩
  obtain ⟨⟨B0, rfl, hB3, hB4⟩, k5, hk4, hk5, hc⟩ := hcut
  clear b0_ b1_ b2_ b3_ b4_ b5_ b6_ b7_ b8_ b9_ bf_
  replace HC := Lib.hid hc
  clear hc
  obtain ⟨b0_, b1_, b2_, b3_, b4_, b5_, b6_, b7_, b8_, b9_⟩ := cf_cells HC.out.box
  simp only at b0_ b1_ b2_ b3_ b4_ b5_ b6_ b7_ b8_ b9_
  have bf_ := HC.out.box.frozen
  rcases B0 with _ | _
  rotate_left
  · have hlt := hB3 rfl
    have hne0 : ¬ (j = 0) := by omega
    obtain ⟨qm, r1, hmod⟩ : ∃ q : Nat, Int.tmod (i : Int) (j : Int) = (q : Int) ∧ q < j := ⟨i % j, by rw [Int.tmod_eq_emod_of_nonneg (by omega)]; rfl, Nat.mod_lt _ (by omega)⟩
    have hl4 := HC.out.box.lt
    go_upto_block 3 with fail
    go_cut [] from 51 to 79 (fun wx => ∃ Ac' cc' k', k5 ≤ k' ∧ k' ≤ k5 + 1 ∧ CfS w1 t g4 B A n cp wx k' ⟨rg, le, bk, x3, Az, j, cz, Ac', (i + 1), cc', none, 0, 0, none, 0, 0, none, 0, 0, none, 0, 0⟩)
    case first =>
      go_upto_region 10 with fail
      go_region_law (first
        | (go_simp; go_at_call 35; refine (range_any (HC.out.frNo (Fr.refl No _).drew).tp (by omega) _ _ (by decide) (by decide) (by decide)).mono ?_; rintro r v ⟨z, rfl, z1a, z1b, k6, j1_, j2_, hT, hF⟩; replace HC := Lib.hid ((HC.out.frNo (Fr.refl No _).drew).tape hT hF hwt); clear hT hF; have hl5_ := HC.out.box.lt; clear b0_ b1_ b2_ b3_ b4_ b5_ b6_ b7_ b8_ b9_ bf_; obtain ⟨b0_, b1_, b2_, b3_, b4_, b5_, b6_, b7_, b8_, b9_⟩ := cf_cells HC.out.box; simp only at b0_ b1_ b2_ b3_ b4_ b5_ b6_ b7_ b8_ b9_; have bf_ := HC.out.box.frozen; skip)
        | (obtain ⟨xs, z1, z2⟩ := HC.out.rc; have hxl := z1.1.1; simp only at z1 z2 hxl; refine step_append_rdN _ (by rfl) (.tmp 67) (.tmp 77) _ (by rfl) 0 TCl ic zc 2 16 Tryd.underlying28 hic hz0c hz1c hz2c hzsc (by decide) (.slice Ac i cc) i xs (by rfl) (z1.frNo ((Fr.refl No v).alloc _)).1 (v.heap.size + 1) (some ⟨v.heap.size, 0, none⟩) 1 1 [.int .i64 (qm : Int), .int .i64 (IntKind.i64.wrap (z * 10))] (by rfl) (fun h => by cases h) (Rd.new v _ TCl rfl) rfl (by simp [Value.oneCell']) (by unfold maxLen; omega) (by omega) (Nat.zero_le _) ?_; intro v1 w6 happ; obtain ⟨A1, c1, rfl, hbx, hc1⟩ := CfS.app_c (HC.out.frNo ((Fr.refl No v).alloc _)) hwB htB hgB hg4w hlow1 (z1.frNo ((Fr.refl No v).alloc _)) z2 ⟨qm, _, hmod, rfl⟩ rfl happ; have x1_ : w6.cell? ⟨g4, 2, none⟩ = some (.slice Ac i cc) := hbx.cell 2; have y1_ := hbx.frozen 2; have HC1 := Lib.hid hc1; clear happ hbx hc1 z1 z2))
      all_goals go_wp2_with fail
      all_goals go_meet
      all_goals exact ⟨_, _, k6, by omega, by omega, HC1.out⟩
    obtain ⟨Ac', cc', k6, hk6, hk7, hc⟩ := hcut
    clear b0_ b1_ b2_ b3_ b4_ b5_ b6_ b7_ b8_ b9_ bf_
    have HC1 := Lib.hid hc
    clear hc
    go_wp2_with fail
    go_roundw
    case rel => exact ⟨i + 1, k6, _, _, by omega, by omega, by go_num, HC1.out⟩
    case measure => simp [intOf]; omega
  have hji := hB4 rfl
  go_wp2_with fail
  refine (next_q HC.out.tp (by omega) _ (by decide) (by decide)).mono ?_
  rintro r v ⟨x7, rfl, x7a, x7b, k7, j1_, j2_, hT, hF⟩
  replace HC := Lib.hid (HC.out.tape hT hF hwt)
  clear hT hF
  clear b0_ b1_ b2_ b3_ b4_ b5_ b6_ b7_ b8_ b9_ bf_
  obtain ⟨b0_, b1_, b2_, b3_, b4_, b5_, b6_, b7_, b8_, b9_⟩ := cf_cells HC.out.box
  simp only at b0_ b1_ b2_ b3_ b4_ b5_ b6_ b7_ b8_ b9_
  have bf_ := HC.out.box.frozen
  obtain ⟨q0, rfl⟩ : ∃ q : Nat, x7 = (q : Int) := ⟨x7.toNat, by omega⟩
  go_wp2_with fail
  clear b0_ b1_ b2_ b3_ b4_ b5_ b6_ b7_ b8_ b9_ bf_
  go_loopw [7] (fun iv wr => ∃ (q k nt : Nat) (At : Option Addr) (ct : Nat), nt + q ≤ 5 ∧ k + 20 * q ≤ 400 ∧ iv = .int .i64 (q : Int) ∧ CfS w1 t g4 B A n cp wr k ⟨rg, le, bk, x3, Az, j, cz, Ac, i, cc, At, nt, ct, none, 0, 0, none, 0, 0, none, 0, 0⟩) (fun i _ => (intOf i).toNat)
  case atStart => exact ⟨q0, k7, 0, none, 0, by omega, by omega, rfl, HC.out⟩
  clear HC
  obtain ⟨q, k, nt, At, ct, hq, hkq, rfl, hc⟩ := hrel
  have HC := Lib.hid hc
  clear hc
  obtain ⟨b0_, b1_, b2_, b3_, b4_, b5_, b6_, b7_, b8_, b9_⟩ := cf_cells HC.out.box
  simp only at b0_ b1_ b2_ b3_ b4_ b5_ b6_ b7_ b8_ b9_
  have bf_ := HC.out.box.frozen
  by_cases hq0 : (0 : Int) < (q : Int)
  · have d3 : decide ((0 : Int) < (q : Int)) = true := decide_eq_true hq0
    go_upto_block 5 with fail
    go_cut [] from 82 to 122 (fun wx => ∃ At' ct' k', k ≤ k' ∧ k' ≤ k + 10 ∧ CfS w1 t g4 B A n cp wx k' ⟨rg, le, bk, x3, Az, j, cz, Ac, i, cc, At', (nt + 1), ct', none, 0, 0, none, 0, 0, none, 0, 0⟩)
    case first =>
      go_wp2_with fail
      refine (range_any HC.out.tp (by omega) _ _ (by decide) (by decide) (by decide)).mono ?_
      rintro r v ⟨n1, rfl, n1a, n1b, k8, j1_, j2_, hT, hF⟩
      replace HC := Lib.hid (HC.out.tape hT hF hwt)
      clear hT hF
      clear b0_ b1_ b2_ b3_ b4_ b5_ b6_ b7_ b8_ b9_ bf_
      obtain ⟨b0_, b1_, b2_, b3_, b4_, b5_, b6_, b7_, b8_, b9_⟩ := cf_cells HC.out.box
      simp only at b0_ b1_ b2_ b3_ b4_ b5_ b6_ b7_ b8_ b9_
      have bf_ := HC.out.box.frozen
      have hnw : IntKind.i64.wrap (n1 + 1) = n1 + 1 := by rw [IntKind.wrap_i64]; omega
      go_upto_region 15 with fail
      go_cut [9] from 88 to 106 (fun p wx => TnP w1 t g4 B A n cp k8 5 ⟨rg, le, bk, x3, Az, j, cz, Ac, i, cc, At, nt, ct, none, 0, 0, none, 0, 0, none, 0, 0⟩ p wx)
      case first =>
        go_region_held3 (fun V => V.cell? ⟨g4, 0, none⟩ = some (.int .i64 (rg : Int))) (first | (refine CfS.rg_ (HC.out.frNo ?_) <;> (with_reducible ((repeat (first | assumption | exact Fr.refl _ _ | refine Fr.alloc ?_ _ | refine Fr.drew ?_ | refine Fr.drewN ?_ _)); done))) | (exact CfS.rg_ (CfS.otherT HC.out (tn_fill _ _ _ _ _ _ _ HZ9.out.1).2 HZ9.out.1 HZ9.out.2.2.2 hlow1 HZ9.out.2.2.1)) | (exact CfS.rg_ (CfS.frNo (CfS.otherT HC.out (tn_fill _ _ _ _ _ _ _ HZ9.out.1).2 HZ9.out.1 HZ9.out.2.2.2 hlow1 HZ9.out.2.2.1) (Fr.refl No _).drew))) (first
          | (go_at_call 34; refine (next_q (HC.out.frNo (by (repeat (first | exact Fr.refl _ _ | refine Fr.alloc ?_ _ | refine Fr.drew ?_ | refine Fr.drewN ?_ _)))).tp (by omega) _ (by omega) (by omega)).mono ?_; rintro r v ⟨z, rfl, z1a, z1b, k8_, j1_, j2_, hT, hF⟩; (first | (have hz9_ := Z9.step HZ9.out hF; replace HZ9 := Lib.hid hz9_; clear hz9_ za0 za1 za2 za3 za4 za5 za6 zaf; obtain ⟨⟨za0, za1, za2, za3, za4, za5, za6⟩, zaf⟩ := z9_cells HZ9.out) | (have hz9_ := Z9.newd HC.out hF; have HZ9 := Lib.hid hz9_; clear hz9_; obtain ⟨⟨za0, za1, za2, za3, za4, za5, za6⟩, zaf⟩ := z9_cells HZ9.out) | (have hz9_ := Z9.new HC.out hF; have HZ9 := Lib.hid hz9_; clear hz9_; obtain ⟨⟨za0, za1, za2, za3, za4, za5, za6⟩, zaf⟩ := z9_cells HZ9.out) | skip); replace HC := Lib.hid ((HC.out.frNo (by (repeat (first | exact Fr.refl _ _ | refine Fr.alloc ?_ _ | refine Fr.drew ?_ | refine Fr.drewN ?_ _)))).tape hT hF hwt); clear hT hF; have hl5_ := HC.out.box.lt; skip)
          | (go_at_call 35; refine (range_any (HC.out.frNo (by (repeat (first | exact Fr.refl _ _ | refine Fr.alloc ?_ _ | refine Fr.drew ?_ | refine Fr.drewN ?_ _)))).tp (by omega) _ _ (by decide) (by decide) (by decide)).mono ?_; rintro r v ⟨z, rfl, z1a, z1b, k8_, j1_, j2_, hT, hF⟩; (first | (have hz9_ := Z9.step HZ9.out hF; replace HZ9 := Lib.hid hz9_; clear hz9_ za0 za1 za2 za3 za4 za5 za6 zaf; obtain ⟨⟨za0, za1, za2, za3, za4, za5, za6⟩, zaf⟩ := z9_cells HZ9.out) | (have hz9_ := Z9.newd HC.out hF; have HZ9 := Lib.hid hz9_; clear hz9_; obtain ⟨⟨za0, za1, za2, za3, za4, za5, za6⟩, zaf⟩ := z9_cells HZ9.out) | (have hz9_ := Z9.new HC.out hF; have HZ9 := Lib.hid hz9_; clear hz9_; obtain ⟨⟨za0, za1, za2, za3, za4, za5, za6⟩, zaf⟩ := z9_cells HZ9.out) | skip); replace HC := Lib.hid ((HC.out.frNo (by (repeat (first | exact Fr.refl _ _ | refine Fr.alloc ?_ _ | refine Fr.drew ?_ | refine Fr.drewN ?_ _)))).tape hT hF hwt); clear hT hF; have hl5_ := HC.out.box.lt; skip)
          | (go_at_call 36; refine (yes_any (HC.out.frNo (by (repeat (first | exact Fr.refl _ _ | refine Fr.alloc ?_ _ | refine Fr.drew ?_ | refine Fr.drewN ?_ _)))).tp (by omega) _ (by decide) (by decide)).mono ?_; rintro r v ⟨zb, rfl, k8_, j1_, j2_, hT, hF⟩; (first | (have hz9_ := Z9.step HZ9.out hF; replace HZ9 := Lib.hid hz9_; clear hz9_ za0 za1 za2 za3 za4 za5 za6 zaf; obtain ⟨⟨za0, za1, za2, za3, za4, za5, za6⟩, zaf⟩ := z9_cells HZ9.out) | (have hz9_ := Z9.newd HC.out hF; have HZ9 := Lib.hid hz9_; clear hz9_; obtain ⟨⟨za0, za1, za2, za3, za4, za5, za6⟩, zaf⟩ := z9_cells HZ9.out) | (have hz9_ := Z9.new HC.out hF; have HZ9 := Lib.hid hz9_; clear hz9_; obtain ⟨⟨za0, za1, za2, za3, za4, za5, za6⟩, zaf⟩ := z9_cells HZ9.out) | skip); replace HC := Lib.hid ((HC.out.frNo (by (repeat (first | exact Fr.refl _ _ | refine Fr.alloc ?_ _ | refine Fr.drew ?_ | refine Fr.drewN ?_ _)))).tape hT hF hwt); clear hT hF; have hl5_ := HC.out.box.lt; skip))
        all_goals go_wp2_with fail
        all_goals go_meet
        all_goals first
          | with_reducible exact TnP.a HC.out ⟨by omega, by omega⟩ _ _ _ _ _ _ _
          | exact TnP.b HC.out ⟨by omega, by omega⟩ HZ9.out hlow1 _ _ _ _ _ _ _
      obtain ⟨g9, xa, xb, xc, xd, xe, xf, xg, k9, rfl, hb9, hn9, hq9, hr9, hk9, hk10, hc⟩ := hcut
      replace HC := Lib.hid hc
      clear hc
      have HB9 := Lib.hid hb9
      clear hb9
      clear b0_ b1_ b2_ b3_ b4_ b5_ b6_ b7_ b8_ b9_ bf_
      obtain ⟨b0_, b1_, b2_, b3_, b4_, b5_, b6_, b7_, b8_, b9_⟩ := cf_cells HC.out.box
      simp only at b0_ b1_ b2_ b3_ b4_ b5_ b6_ b7_ b8_ b9_
      have bf_ := HC.out.box.frozen
      go_wp2_with fail
      refine (yes_any HC.out.tp (by omega) _ (by decide) (by decide)).mono ?_
      rintro r v ⟨B2, rfl, k10, j1_, j2_, hT, hF⟩
      replace HC := Lib.hid (HC.out.tape hT hF hwt)
      replace HB9 := Lib.hid (HB9.out.fr hF hn9)
      clear hT hF
      clear b0_ b1_ b2_ b3_ b4_ b5_ b6_ b7_ b8_ b9_ bf_
      obtain ⟨b0_, b1_, b2_, b3_, b4_, b5_, b6_, b7_, b8_, b9_⟩ := cf_cells HC.out.box
      simp only at b0_ b1_ b2_ b3_ b4_ b5_ b6_ b7_ b8_ b9_
      have bf_ := HC.out.box.frozen
      obtain ⟨h0_, h1_, h2_, h3_, h4_, h5_, h6_⟩ := tn_cells HB9.out
      have h9f_ := HB9.out.frozen
      go_upto_if 108 with fail
      go_cut [] from 109 to 116 (fun wx => ∃ (xe' : Int) (k' : Nat), Blk wx g9 TTn #[.int .i64 xa, .int .i64 xb, .int .i64 xc, .int .i64 xd, .int .i64 xe', .int .i64 xf, .bool xg] ∧ k10 ≤ k' ∧ k' ≤ k10 + 1 ∧ CfS w1 t g4 B A n cp wx k' ⟨rg, le, bk, x3, Az, j, cz, Ac, i, cc, At, nt, ct, none, 0, 0, none, 0, 0, none, 0, 0⟩)
      case first =>
        rcases B2 with _ | _
        · go_wp2_with fail
          go_meet
          exact ⟨xe, k10, HB9.out, by omega, by omega, HC.out⟩
        · rcases (show rg = 1 ∨ rg = 2 ∨ rg = 3 from by omega) with rfl | rfl | rfl
          all_goals
            go_wp2_with fail
            refine (range_any HC.out.tp (by omega) _ _ (by decide) (by decide) (by decide)).mono ?_
            rintro r v ⟨z, rfl, z1a, z1b, k11, j1_, j2_, hT, hF⟩
            replace HC := Lib.hid (HC.out.tape hT hF hwt)
            replace HB9 := Lib.hid (HB9.out.fr hF hn9)
            clear hT hF
            clear b0_ b1_ b2_ b3_ b4_ b5_ b6_ b7_ b8_ b9_ bf_
            clear h0_ h1_ h2_ h3_ h4_ h5_ h6_ h9f_
            obtain ⟨b0_, b1_, b2_, b3_, b4_, b5_, b6_, b7_, b8_, b9_⟩ := cf_cells HC.out.box
            simp only at b0_ b1_ b2_ b3_ b4_ b5_ b6_ b7_ b8_ b9_
            have bf_ := HC.out.box.frozen
            obtain ⟨h0_, h1_, h2_, h3_, h4_, h5_, h6_⟩ := tn_cells HB9.out
            have h9f_ := HB9.out.frozen
            go_wp2_with fail
            go_meet
            exact ⟨z, k11, Blk.cv (HB9.out.set_ 4 _) rfl, by omega, by omega, HC.out.otherT (fr_set _ ⟨g9, 4, none⟩ _) HB9.out hr9 hlow1 hq9⟩
      obtain ⟨xe', k11, hb9, hk11, hk12, hc⟩ := hcut
      clear b0_ b1_ b2_ b3_ b4_ b5_ b6_ b7_ b8_ b9_ bf_
      clear h0_ h1_ h2_ h3_ h4_ h5_ h6_ h9f_
      replace HC := Lib.hid hc
      replace HB9 := Lib.hid hb9
      clear hc hb9
      obtain ⟨b0_, b1_, b2_, b3_, b4_, b5_, b6_, b7_, b8_, b9_⟩ := cf_cells HC.out.box
      simp only at b0_ b1_ b2_ b3_ b4_ b5_ b6_ b7_ b8_ b9_
      have bf_ := HC.out.box.frozen
      obtain ⟨h0_, h1_, h2_, h3_, h4_, h5_, h6_⟩ := tn_cells HB9.out
      have h9f_ := HB9.out.frozen
      have hl4 := HC.out.box.lt
      obtain ⟨xs, t1_, t2_⟩ := HC.out.rt
      have hxl := t1_.1.1
      simp only at t1_ t2_ hxl
      have hown := t1_.frNo (fr_alloc wc (.cells #[.int .i64 xa, .int .i64 xb, .int .i64 xc, .int .i64 xd, .int .i64 xe', .int .i64 xf, .bool xg] TTn))
      have hrn := Rd.new wc _ TTn (xs := [.int .i64 xa, .int .i64 xb, .int .i64 xc, .int .i64 xd, .int .i64 xe', .int .i64 xf, .bool xg]) rfl
      have hap := fun w6 v1 happ => CfS.app_t (w' := w6) (v' := v1) (HC.out.frNo (fr_alloc wc (.cells #[.int .i64 xa, .int .i64 xb, .int .i64 xc, .int .i64 xd, .int .i64 xe', .int .i64 xf, .bool xg] TTn))) hwB htB hgB hg4w hlow1 hown t2_ ⟨xa, xb, xc, xd, xe', xf, xg, rfl⟩ rfl happ
      clear t1_
      have HOWN := Lib.hid hown
      have HRN := Lib.hid hrn
      have HAP := Lib.hid hap
      have T2_ := Lib.hid t2_
      clear hown hrn hap t2_
      go_wp2_with (at_builtin; refine wpList_append_rdN _ rfl (.tmp 118) (.tmp 120) _ rfl 0 TTn it zt 7 56 Tryd.underlying29 hit hz0t hz1t hz2t hzst (by decide) (.slice At nt ct) nt xs rfl HOWN.out.1 (wc.heap.size + 1) (some ⟨wc.heap.size, 0, none⟩) 1 1 [.int .i64 xa, .int .i64 xb, .int .i64 xc, .int .i64 xd, .int .i64 xe', .int .i64 xf, .bool xg] rfl (fun h => by cases h) HRN.out rfl (by simp [Value.oneCell']) (by unfold maxLen; omega) (by omega) (Nat.zero_le _) ?_)
      intro v1 w6 happ
      obtain ⟨A1, c1, rfl, hbx, hc1⟩ := HAP.out _ _ happ
      have x1_ : w6.cell? ⟨g4, 3, none⟩ = some (.slice At nt ct) := hbx.cell 3
      have y1_ := hbx.frozen 3
      have HC1 := Lib.hid hc1
      clear happ hbx hc1
      go_wp2_with fail
      go_meet
      exact ⟨_, _, k11, by omega, by omega, HC1.out⟩
    obtain ⟨At', ct', k9, hk9, hk10, hc⟩ := hcut
    clear b0_ b1_ b2_ b3_ b4_ b5_ b6_ b7_ b8_ b9_ bf_
    have HC1 := Lib.hid hc
    clear hc
    go_wp2_with fail
    go_roundw
    case rel => exact ⟨q - 1, k9, nt + 1, _, _, by omega, by omega, by go_num, HC1.out⟩
    case measure => simp [intOf]; omega
  have hqz : q = 0 := by omega
  subst hqz
  have d3 : decide ((0 : Int) < ((0 : Nat) : Int)) = false := by decide
  have d3' : decide ((0 : Int) < (0 : Int)) = false := by decide
  go_upto_region 19 with fail
  go_cut [] from 123 to 127 (fun wx => ∃ (Av : Option Addr) (cv k' : Nat), k ≤ k' ∧ k' ≤ k + 1 ∧ CfS w1 t g4 B A n cp wx k' ⟨rg, le, bk, x3, Az, j, cz, Ac, i, cc, At, nt, ct, Av, 1, cv, none, 0, 0, none, 0, 0⟩)
  case first =>
    go_wp2_with fail
    refine (next_q HC.out.tp (by omega) _ (by decide) (by decide)).mono ?_
    rintro r v ⟨z, rfl, z1a, z1b, k9, j1_, j2_, hT, hF⟩
    replace HC := Lib.hid (HC.out.tape hT hF hwt)
    clear hT hF
    clear b0_ b1_ b2_ b3_ b4_ b5_ b6_ b7_ b8_ b9_ bf_
    obtain ⟨b0_, b1_, b2_, b3_, b4_, b5_, b6_, b7_, b8_, b9_⟩ := cf_cells HC.out.box
    simp only at b0_ b1_ b2_ b3_ b4_ b5_ b6_ b7_ b8_ b9_
    have bf_ := HC.out.box.frozen
    have hl4 := HC.out.box.lt
    go_wp2_with fail
    go_meet
    exact ⟨_, _, k9, by omega, by omega, CfS.newv HC.out hg4w hlow1 0 z⟩
  obtain ⟨Av, cv, k9, hk9, hk10, hc⟩ := hcut
  clear b0_ b1_ b2_ b3_ b4_ b5_ b6_ b7_ b8_ b9_ bf_
  replace HC := Lib.hid hc
  clear hc
  obtain ⟨b0_, b1_, b2_, b3_, b4_, b5_, b6_, b7_, b8_, b9_⟩ := cf_cells HC.out.box
  simp only at b0_ b1_ b2_ b3_ b4_ b5_ b6_ b7_ b8_ b9_
  have bf_ := HC.out.box.frozen
  go_wp2_with fail
  refine (next_q HC.out.tp (by omega) _ (by decide) (by decide)).mono ?_
  rintro r v ⟨x7v, rfl, x8a, x8b, k10, j1_, j2_, hT, hF⟩
  replace HC := Lib.hid (HC.out.tape hT hF hwt)
  clear hT hF
  clear b0_ b1_ b2_ b3_ b4_ b5_ b6_ b7_ b8_ b9_ bf_
  obtain ⟨b0_, b1_, b2_, b3_, b4_, b5_, b6_, b7_, b8_, b9_⟩ := cf_cells HC.out.box
  simp only at b0_ b1_ b2_ b3_ b4_ b5_ b6_ b7_ b8_ b9_
  have bf_ := HC.out.box.frozen
  obtain ⟨q1, rfl⟩ : ∃ q : Nat, x7v = (q : Int) := ⟨x7v.toNat, by omega⟩
  go_wp2_with fail
  clear b0_ b1_ b2_ b3_ b4_ b5_ b6_ b7_ b8_ b9_ bf_
  go_loopw [10] (fun iv wr => ∃ (q k nv : Nat) (Av : Option Addr) (cv : Nat), 1 ≤ nv ∧ nv + q ≤ 3 ∧ k + 20 * q ≤ 500 ∧ iv = .int .i64 (q : Int) ∧ CfS w1 t g4 B A n cp wr k ⟨rg, le, bk, x3, Az, j, cz, Ac, i, cc, At, nt, ct, Av, nv, cv, none, 0, 0, none, 0, 0⟩) (fun i _ => (intOf i).toNat)
  case atStart => exact ⟨q1, k10, 1, _, _, by omega, by omega, by omega, rfl, HC.out⟩
  clear HC
  obtain ⟨q, k, nv, Av, cv, hnv1, hq, hkq, rfl, hc⟩ := hrel
  have HC := Lib.hid hc
  clear hc
  obtain ⟨b0_, b1_, b2_, b3_, b4_, b5_, b6_, b7_, b8_, b9_⟩ := cf_cells HC.out.box
  simp only at b0_ b1_ b2_ b3_ b4_ b5_ b6_ b7_ b8_ b9_
  have bf_ := HC.out.box.frozen
  by_cases hq0 : (0 : Int) < (q : Int)
  · have d3 : decide ((0 : Int) < (q : Int)) = true := decide_eq_true hq0
    go_upto_block 7 with fail
    go_cut [] from 130 to 146 (fun wx => ∃ Av' cv' k', k ≤ k' ∧ k' ≤ k + 2 ∧ CfS w1 t g4 B A n cp wx k' ⟨rg, le, bk, x3, Az, j, cz, Ac, i, cc, At, nt, ct, Av', (nv + 1), cv', none, 0, 0, none, 0, 0⟩)
    case first =>
      go_wp2_with fail
      refine (next_q HC.out.tp (by omega) _ (by decide) (by decide)).mono ?_
      rintro r v ⟨lw, rfl, n1a, n1b, k8, j1_, j2_, hT, hF⟩
      replace HC := Lib.hid (HC.out.tape hT hF hwt)
      clear hT hF
      clear b0_ b1_ b2_ b3_ b4_ b5_ b6_ b7_ b8_ b9_ bf_
      obtain ⟨b0_, b1_, b2_, b3_, b4_, b5_, b6_, b7_, b8_, b9_⟩ := cf_cells HC.out.box
      simp only at b0_ b1_ b2_ b3_ b4_ b5_ b6_ b7_ b8_ b9_
      have bf_ := HC.out.box.frozen
      go_upto_region 24 with fail
      go_region_law (first
        | (go_simp; go_at_call 34; refine (next_q (HC.out.frNo (Fr.refl No _).drew).tp (by omega) _ (by decide) (by decide)).mono ?_; rintro r v ⟨z, rfl, z1a, z1b, k9, j1_, j2_, hT, hF⟩; replace HC := Lib.hid ((HC.out.frNo (Fr.refl No _).drew).tape hT hF hwt); clear hT hF; have hl5_ := HC.out.box.lt; clear b0_ b1_ b2_ b3_ b4_ b5_ b6_ b7_ b8_ b9_ bf_; obtain ⟨b0_, b1_, b2_, b3_, b4_, b5_, b6_, b7_, b8_, b9_⟩ := cf_cells HC.out.box; simp only at b0_ b1_ b2_ b3_ b4_ b5_ b6_ b7_ b8_ b9_; have bf_ := HC.out.box.frozen; skip)
        | (obtain ⟨xs, z1, z2⟩ := HC.out.rv; have hxl := z1.1.1; simp only at z1 z2 hxl; refine step_append_rdN _ (by rfl) (.tmp 137) (.tmp 144) _ (by rfl) 0 TVr iv zv 2 16 Tryd.underlying30 hiv hz0v hz1v hz2v hzsv (by decide) (.slice Av nv cv) nv xs (by rfl) (z1.frNo ((Fr.refl No v).alloc _)).1 (v.heap.size + 1) (some ⟨v.heap.size, 0, none⟩) 1 1 [.int .i64 lw, .int .i64 (IntKind.i64.wrap (lw + z))] (by rfl) (fun h => by cases h) (Rd.new v _ TVr rfl) rfl (by simp [Value.oneCell']) (by unfold maxLen; omega) (by omega) (Nat.zero_le _) ?_; intro v1 w6 happ; obtain ⟨A1, c1, rfl, hbx, hc1⟩ := CfS.app_v (HC.out.frNo ((Fr.refl No v).alloc _)) hwB htB hgB hg4w hlow1 (z1.frNo ((Fr.refl No v).alloc _)) z2 ⟨lw, _, rfl⟩ rfl happ; have x1_ : w6.cell? ⟨g4, 4, none⟩ = some (.slice Av nv cv) := hbx.cell 4; have y1_ := hbx.frozen 4; have HC1 := Lib.hid hc1; clear happ hbx hc1 z1 z2))
      all_goals go_wp2_with fail
      all_goals go_meet
      all_goals exact ⟨_, _, k9, by omega, by omega, HC1.out⟩
    obtain ⟨Av', cv', k9, hk9, hk10, hc⟩ := hcut
    clear b0_ b1_ b2_ b3_ b4_ b5_ b6_ b7_ b8_ b9_ bf_
    have HC1 := Lib.hid hc
    clear hc
    go_wp2_with fail
    go_roundw
    case rel => exact ⟨q - 1, k9, nv + 1, _, _, by omega, by omega, by omega, by go_num, HC1.out⟩
    case measure => simp [intOf]; omega
  have hqz : q = 0 := by omega
  subst hqz
  have d3 : decide ((0 : Int) < ((0 : Nat) : Int)) = false := by decide
  have d3' : decide ((0 : Int) < (0 : Int)) = false := by decide
  go_upto_region 25 with fail
  go_cut [12] from 147 to 150 (fun x wx => (∃ q : Nat, q ≤ 4 ∧ x = .int .i64 (q : Int)) ∧ ∃ k', k ≤ k' ∧ k' ≤ k + 1 ∧ CfS w1 t g4 B A n cp wx k' ⟨rg, le, bk, x3, Az, j, cz, Ac, i, cc, At, nt, ct, Av, nv, cv, none, 0, 0, none, 0, 0⟩)
  case first =>
    go_wp2_with fail
    refine (next_q HC.out.tp (by omega) _ (by decide) (by decide)).mono ?_
    rintro r v ⟨z, rfl, z1a, z1b, k9, j1_, j2_, hT, hF⟩
    replace HC := Lib.hid (HC.out.tape hT hF hwt)
    clear hT hF
    clear b0_ b1_ b2_ b3_ b4_ b5_ b6_ b7_ b8_ b9_ bf_
    obtain ⟨b0_, b1_, b2_, b3_, b4_, b5_, b6_, b7_, b8_, b9_⟩ := cf_cells HC.out.box
    simp only at b0_ b1_ b2_ b3_ b4_ b5_ b6_ b7_ b8_ b9_
    have bf_ := HC.out.box.frozen
    rcases (show z = 0 ∨ z = 1 from by omega) with rfl | rfl
    all_goals go_wp2_with fail
    all_goals go_meet
    · exact ⟨⟨1, by decide, rfl⟩, k9, by omega, by omega, HC.out⟩
    · exact ⟨⟨3, by decide, rfl⟩, k9, by omega, by omega, HC.out⟩
  obtain ⟨⟨q1, hq1, rfl⟩, k10, hk9, hk10, hc⟩ := hcut
  clear b0_ b1_ b2_ b3_ b4_ b5_ b6_ b7_ b8_ b9_ bf_
  replace HC := Lib.hid hc
  clear hc
  obtain ⟨b0_, b1_, b2_, b3_, b4_, b5_, b6_, b7_, b8_, b9_⟩ := cf_cells HC.out.box
  simp only at b0_ b1_ b2_ b3_ b4_ b5_ b6_ b7_ b8_ b9_
  have bf_ := HC.out.box.frozen
  go_wp2_with fail
  clear b0_ b1_ b2_ b3_ b4_ b5_ b6_ b7_ b8_ b9_ bf_
  go_loopw [12] (fun iv wr => ∃ (q k nr : Nat) (Ar : Option Addr) (cr : Nat), nr + q ≤ 4 ∧ k + 20 * q ≤ 600 ∧ iv = .int .i64 (q : Int) ∧ CfS w1 t g4 B A n cp wr k ⟨rg, le, bk, x3, Az, j, cz, Ac, i, cc, At, nt, ct, Av, nv, cv, Ar, nr, cr, none, 0, 0⟩ ∧ ∃ xs, OwnN wr (fun i => B ≤ i) TIm 1 (.slice Ar nr cr) nr xs) (fun i _ => (intOf i).toNat)
  case atStart => exact ⟨q1, k10, 0, none, 0, by omega, by omega, rfl, HC.out, _, OwnN.nil _ _ _ _⟩
  clear HC
  obtain ⟨q, k, nr, Ar, cr, hq, hkq, rfl, hc, xs, hrw⟩ := hrel
  have HC := Lib.hid hc
  have HRW := Lib.hid hrw
  clear hc hrw
  obtain ⟨b0_, b1_, b2_, b3_, b4_, b5_, b6_, b7_, b8_, b9_⟩ := cf_cells HC.out.box
  simp only at b0_ b1_ b2_ b3_ b4_ b5_ b6_ b7_ b8_ b9_
  have bf_ := HC.out.box.frozen
  by_cases hq0 : (0 : Int) < (q : Int)
  · have d3 : decide ((0 : Int) < (q : Int)) = true := decide_eq_true hq0
    have hxl := HRW.out.1.1
    go_upto_block 9 with fail
    go_cut [] from 151 to 164 (fun wx => ∃ Ar' cr' k', k ≤ k' ∧ k' ≤ k + 1 ∧ CfS w1 t g4 B A n cp wx k' ⟨rg, le, bk, x3, Az, j, cz, Ac, i, cc, At, nt, ct, Av, nv, cv, Ar', (nr + 1), cr', none, 0, 0⟩ ∧ ∃ xs, OwnN wx (fun i => B ≤ i) TIm 1 (.slice Ar' (nr + 1) cr') (nr + 1) xs)
    case first =>
      go_upto_region 28 with fail
      go_region_law (first
        | (go_simp; go_at_call 34; refine (next_q (HC.out.frNo (Fr.refl No _).drew).tp (by omega) _ (by omega) (by omega)).mono ?_; rintro r v ⟨z, rfl, z1a, z1b, k9, j1_, j2_, hT, hF⟩; replace HRW := Lib.hid (OwnN.tapeFr (HRW.out.frNo (Fr.refl No _).drew) (HC.out.frNo (Fr.refl No _).drew).tp hF (by decide)); replace HC := Lib.hid ((HC.out.frNo (Fr.refl No _).drew).tape hT hF hwt); clear hT hF; have hl5_ := HC.out.box.lt; clear b0_ b1_ b2_ b3_ b4_ b5_ b6_ b7_ b8_ b9_ bf_; obtain ⟨b0_, b1_, b2_, b3_, b4_, b5_, b6_, b7_, b8_, b9_⟩ := cf_cells HC.out.box; simp only at b0_ b1_ b2_ b3_ b4_ b5_ b6_ b7_ b8_ b9_; have bf_ := HC.out.box.frozen; skip)
        | (refine step_append_rdN _ (by rfl) (.tmp 156) (.tmp 162) _ (by rfl) 0 TIm ii zi 1 8 Tryd.underlying22 hii hz0i hz1i hz2i hzsi (by decide) (.slice Ar nr cr) nr xs (by rfl) (HRW.out.frNo ((Fr.refl No v).alloc _)).1 (v.heap.size + 1) (some ⟨v.heap.size, 0, none⟩) 1 1 [.int .i64 z] (by rfl) (fun h => by cases h) (Rd.new v _ TIm rfl) rfl (by simp [Value.oneCell']) (by unfold maxLen; omega) (by omega) (Nat.zero_le _) ?_; intro v1 w6 happ; obtain ⟨A1, c1, xs2, rfl, hbx, hrw2, hc1⟩ := CfS.app_r (HC.out.frNo ((Fr.refl No v).alloc _)) hwB htB hgB hg4w hlow1 (fun i hi => hi) (fun i hi => Nat.le_trans HC.out.sz (Nat.le_trans (fr_alloc v _).size hi)) (HRW.out.frNo ((Fr.refl No v).alloc _)) happ; have x1_ : w6.cell? ⟨g4, 5, none⟩ = some (.slice Ar nr cr) := hbx.cell 5; have y1_ := hbx.frozen 5; have HC1 := Lib.hid hc1; have HRW1 := Lib.hid hrw2; clear happ hbx hc1 hrw2))
      all_goals go_wp2_with fail
      all_goals go_meet
      all_goals exact ⟨_, _, k9, by omega, by omega, HC1.out, _, HRW1.out⟩
    obtain ⟨Ar', cr', k9, hk9, hk10, hc, xs', hrw⟩ := hcut
    clear b0_ b1_ b2_ b3_ b4_ b5_ b6_ b7_ b8_ b9_ bf_
    have HC1 := Lib.hid hc
    have HRW1 := Lib.hid hrw
    clear hc hrw
    go_wp2_with fail
    go_roundw
    case rel => exact ⟨q - 1, k9, nr + 1, _, _, by omega, by omega, by go_num, HC1.out, _, HRW1.out⟩
    case measure => simp [intOf]; omega
  have hqz : q = 0 := by omega
  subst hqz
  have d3 : decide ((0 : Int) < ((0 : Nat) : Int)) = false := by decide
  have d3' : decide ((0 : Int) < (0 : Int)) = false := by decide
  go_upto_region 29 with fail
  go_cut [13] from 165 to 166 (fun x wx => (∃ q : Nat, q ≤ 4 ∧ x = .int .i64 (q : Int)) ∧ ∃ k', k ≤ k' ∧ k' ≤ k + 1 ∧ CfS w1 t g4 B A n cp wx k' ⟨rg, le, bk, x3, Az, j, cz, Ac, i, cc, At, nt, ct, Av, nv, cv, Ar, nr, cr, none, 0, 0⟩)
  case first =>
    go_wp2_with fail
    refine (range_any HC.out.tp (by omega) _ _ (by decide) (by decide) (by decide)).mono ?_
    rintro r v ⟨z, rfl, z1a, z1b, k9, j1_, j2_, hT, hF⟩
    replace HC := Lib.hid (HC.out.tape hT hF hwt)
    clear hT hF
    clear b0_ b1_ b2_ b3_ b4_ b5_ b6_ b7_ b8_ b9_ bf_
    obtain ⟨b0_, b1_, b2_, b3_, b4_, b5_, b6_, b7_, b8_, b9_⟩ := cf_cells HC.out.box
    simp only at b0_ b1_ b2_ b3_ b4_ b5_ b6_ b7_ b8_ b9_
    have bf_ := HC.out.box.frozen
    obtain ⟨zq, rfl⟩ : ∃ q : Nat, z = (q : Int) := ⟨z.toNat, by omega⟩
    go_wp2_with fail
    go_meet
    exact ⟨⟨zq, by omega, rfl⟩, k9, by omega, by omega, HC.out⟩
  obtain ⟨⟨q1, hq1, rfl⟩, k10, hk9, hk10, hc⟩ := hcut
  clear b0_ b1_ b2_ b3_ b4_ b5_ b6_ b7_ b8_ b9_ bf_
  replace HC := Lib.hid hc
  clear hc
  obtain ⟨b0_, b1_, b2_, b3_, b4_, b5_, b6_, b7_, b8_, b9_⟩ := cf_cells HC.out.box
  simp only at b0_ b1_ b2_ b3_ b4_ b5_ b6_ b7_ b8_ b9_
  have bf_ := HC.out.box.frozen
  go_wp2_with fail
  clear b0_ b1_ b2_ b3_ b4_ b5_ b6_ b7_ b8_ b9_ bf_
  go_loopw [13] (fun iv wr => ∃ (q k no_ : Nat) (Ao : Option Addr) (co : Nat), no_ + q ≤ 4 ∧ k + 20 * q ≤ 700 ∧ iv = .int .i64 (q : Int) ∧ CfS w1 t g4 B A n cp wr k ⟨rg, le, bk, x3, Az, j, cz, Ac, i, cc, At, nt, ct, Av, nv, cv, Ar, nr, cr, Ao, no_, co⟩ ∧ ∃ xs, OwnN wr (fun i => B ≤ i) TIm 1 (.slice Ao no_ co) no_ xs) (fun i _ => (intOf i).toNat)
  case atStart => exact ⟨q1, k10, 0, none, 0, by omega, by omega, rfl, HC.out, _, OwnN.nil _ _ _ _⟩
  clear HC
  obtain ⟨q, k, no_, Ao, co, hq, hkq, rfl, hc, xs, hrw⟩ := hrel
  have HC := Lib.hid hc
  have HRW := Lib.hid hrw
  clear hc hrw
  obtain ⟨b0_, b1_, b2_, b3_, b4_, b5_, b6_, b7_, b8_, b9_⟩ := cf_cells HC.out.box
  simp only at b0_ b1_ b2_ b3_ b4_ b5_ b6_ b7_ b8_ b9_
  have bf_ := HC.out.box.frozen
  by_cases hq0 : (0 : Int) < (q : Int)
  · have d3 : decide ((0 : Int) < (q : Int)) = true := decide_eq_true hq0
    have hxl := HRW.out.1.1
    go_upto_block 11 with fail
    go_cut [] from 167 to 180 (fun wx => ∃ Ao' co' k', k ≤ k' ∧ k' ≤ k + 1 ∧ CfS w1 t g4 B A n cp wx k' ⟨rg, le, bk, x3, Az, j, cz, Ac, i, cc, At, nt, ct, Av, nv, cv, Ar, nr, cr, Ao', (no_ + 1), co'⟩ ∧ ∃ xs, OwnN wx (fun i => B ≤ i) TIm 1 (.slice Ao' (no_ + 1) co') (no_ + 1) xs)
    case first =>
      go_upto_region 32 with fail
      go_region_law (first
        | (go_simp; go_at_call 34; refine (next_q (HC.out.frNo (Fr.refl No _).drew).tp (by omega) _ (by omega) (by omega)).mono ?_; rintro r v ⟨z, rfl, z1a, z1b, k9, j1_, j2_, hT, hF⟩; replace HRW := Lib.hid (OwnN.tapeFr (HRW.out.frNo (Fr.refl No _).drew) (HC.out.frNo (Fr.refl No _).drew).tp hF (by decide)); replace HC := Lib.hid ((HC.out.frNo (Fr.refl No _).drew).tape hT hF hwt); clear hT hF; have hl5_ := HC.out.box.lt; clear b0_ b1_ b2_ b3_ b4_ b5_ b6_ b7_ b8_ b9_ bf_; obtain ⟨b0_, b1_, b2_, b3_, b4_, b5_, b6_, b7_, b8_, b9_⟩ := cf_cells HC.out.box; simp only at b0_ b1_ b2_ b3_ b4_ b5_ b6_ b7_ b8_ b9_; have bf_ := HC.out.box.frozen; skip)
        | (refine step_append_rdN _ (by rfl) (.tmp 172) (.tmp 178) _ (by rfl) 0 TIm ii zi 1 8 Tryd.underlying22 hii hz0i hz1i hz2i hzsi (by decide) (.slice Ao no_ co) no_ xs (by rfl) (HRW.out.frNo ((Fr.refl No v).alloc _)).1 (v.heap.size + 1) (some ⟨v.heap.size, 0, none⟩) 1 1 [.int .i64 z] (by rfl) (fun h => by cases h) (Rd.new v _ TIm rfl) rfl (by simp [Value.oneCell']) (by unfold maxLen; omega) (by omega) (Nat.zero_le _) ?_; intro v1 w6 happ; obtain ⟨A1, c1, xs2, rfl, hbx, hrw2, hc1⟩ := CfS.app_o (HC.out.frNo ((Fr.refl No v).alloc _)) hwB htB hgB hg4w hlow1 (fun i hi => hi) (fun i hi => Nat.le_trans HC.out.sz (Nat.le_trans (fr_alloc v _).size hi)) (HRW.out.frNo ((Fr.refl No v).alloc _)) happ; have x1_ : w6.cell? ⟨g4, 6, none⟩ = some (.slice Ao no_ co) := hbx.cell 6; have y1_ := hbx.frozen 6; have HC1 := Lib.hid hc1; have HRW1 := Lib.hid hrw2; clear happ hbx hc1 hrw2))
      all_goals go_wp2_with fail
      all_goals go_meet
      all_goals exact ⟨_, _, k9, by omega, by omega, HC1.out, _, HRW1.out⟩
    obtain ⟨Ao', co', k9, hk9, hk10, hc, xs', hrw⟩ := hcut
    clear b0_ b1_ b2_ b3_ b4_ b5_ b6_ b7_ b8_ b9_ bf_
    have HC1 := Lib.hid hc
    have HRW1 := Lib.hid hrw
    clear hc hrw
    go_wp2_with fail
    go_roundw
    case rel => exact ⟨q - 1, k9, no_ + 1, _, _, by omega, by omega, by go_num, HC1.out, _, HRW1.out⟩
    case measure => simp [intOf]; omega
  have hqz : q = 0 := by omega
  subst hqz
  have d3 : decide ((0 : Int) < ((0 : Nat) : Int)) = false := by decide
  have d3' : decide ((0 : Int) < (0 : Int)) = false := by decide
  have hzz := HZB.out _ HC.out.fr
  obtain ⟨u0_, u1_, u2_, u3_, u4_, u5_, u6_, u7_, u8_, u9_⟩ : wr.cell? ⟨g1, 0, none⟩ = some (.int .i64 0) ∧ wr.cell? ⟨g1, 1, none⟩ = some (.slice none 0 0) ∧ wr.cell? ⟨g1, 2, none⟩ = some (.slice none 0 0) ∧ wr.cell? ⟨g1, 3, none⟩ = some (.slice none 0 0) ∧ wr.cell? ⟨g1, 4, none⟩ = some (.slice none 0 0) ∧ wr.cell? ⟨g1, 5, none⟩ = some (.slice none 0 0) ∧ wr.cell? ⟨g1, 6, none⟩ = some (.slice none 0 0) ∧ wr.cell? ⟨g1, 7, none⟩ = some (.int .i64 0) ∧ wr.cell? ⟨g1, 8, none⟩ = some (.int .i64 0) ∧ wr.cell? ⟨g1, 9, none⟩ = some (.int .i64 0) := ⟨hzz.cell 0, hzz.cell 1, hzz.cell 2, hzz.cell 3, hzz.cell 4, hzz.cell 5, hzz.cell 6, hzz.cell 7, hzz.cell 8, hzz.cell 9⟩
  have q0 := hzz.frozen 0
  have q1 := hzz.frozen 1
  have q2 := hzz.frozen 2
  have q3 := hzz.frozen 3
  have q4 := hzz.frozen 4
  have q5 := hzz.frozen 5
  have q6 := hzz.frozen 6
  have q7 := hzz.frozen 7
  have q8 := hzz.frozen 8
  have q9 := hzz.frozen 9
  have hT := ConfTo.fill fW (Nat.le_trans fW.size hwB) HC.out hg1w hne hlow hzz ⟨by (try dsimp only); omega, by (try dsimp only); omega⟩ ⟨by (try dsimp only); omega, by (try dsimp only); omega⟩ ⟨by (try dsimp only); omega, by (try dsimp only); omega⟩ (by (try dsimp only); omega) ⟨by (try dsimp only); omega, by (try dsimp only); omega⟩ ⟨by (try dsimp only); omega, by (try dsimp only); omega⟩ (by (try dsimp only); omega)
  have hT8 := (cf_fill ⟨rg, le, bk, x3, Az, j, cz, Ac, i, cc, At, nt, ct, Av, nv, cv, Ar, nr, cr, Ao, no_, co⟩ hzz).1
  clear hzz
  have HT := Lib.hid hT
  have HT8 := Lib.hid hT8
  clear hT hT8
  go_wp2_with fail
  exact bodyPost_ret (v := .agg (Cv.arr ⟨rg, le, bk, x3, Az, j, cz, Ac, i, cc, At, nt, ct, Av, nv, cv, Ar, nr, cr, Ao, no_, co⟩)) (config_results ⟨rg, le, bk, x3, Az, j, cz, Ac, i, cc, At, nt, ct, Av, nv, cv, Ar, nr, cr, Ao, no_, co⟩ g1 _ _ HT8.out rfl) rfl HT.out
end Go.Proofs.YtanhbebikcoliaaDoor
