/-
  The walk of EntryBack.
-/
import Derived.Test.YtanhbebikcoliaaDoorEl
import Derived.Test.YtanhbebikcoliaaDoorG4
import Derived.Test.YtanhbebikcoliaaDoorG3
import Derived.Test.YtanhbebikcoliaaDoorG14
import Derived.Test.YtanhbebikcoliaaDoorG2
import Derived.Test.YtanhbebikcoliaaDoorApp
namespace Go.Proofs.YtanhbebikcoliaaDoor
open Go.ChangeShapes Go.WideShapes Go.ChangeAt Go.RowKit
set_option linter.unusedVariables false
set_option maxRecDepth 100000 in
set_option maxHeartbeats 8000000 in
theorem EntryBack_walk (A : Option Addr) (n cp : Nat) (z0 : List Int) (v1 : Value) (a2 : Option Addr) (len2 cap2 : Nat) (z2 : List Int) (w : World) (w0 : IsRow .i64 w A n cp z0) (w1 : In_ent w v1) (w2 : IsRow .u8 w a2 len2 cap2 z2) (_s0 : cp * 8 ≤ 140737488351232) (_s2 : cap2 * 1 ≤ 140737488351232) (hT : TabN w) :
    Calls Tryd.prog 7 #[.slice A n cp, v1, .slice a2 len2 cap2] w fun e w' => e = .returned (.bool true) ∧ Below w.heap.size w w' := by
  have hl := w0.lsIn
  obtain ⟨lb, hlb, hlm, hlc, hln, hlr⟩ := w2.open_
  clear w0 w2 _s0 _s2 z0 z2
  obtain ⟨a, oa, rfl⟩ := w1
  have hBa := fun V => bytes_any a V oa
  have hSa := fun V => shape_any a V
  have hRb := readE_back a oa []
  rw [List.append_nil] at hRb
  have hab : a = a := rfl
  have hla := enB_len a oa
  clear hab
  revert hBa hSa hla hRb
  generalize enB a = la
  generalize shapeB a = pa
  intro hBa hSa hRb hla
  clear oa
  obtain ⟨i0, hi0, hz0, hz1, hz2⟩ := info_parts bytes_info
  obtain ⟨akd, aet, atn, acl, aot, aep, afm, aun, an⟩ := a
  unfold En.v at *
  have HLB := Lib.hid hlb
  have HLN := Lib.hid hln
  have HLR := Lib.hid hlr
  clear hlb hln hlr
  go_enter Tryd.func7, Tryd.ntmps7
  go_wp2_with fail
  refine (light_any A n cp _).mono ?_
  rintro e w1 ⟨rfl, rfl⟩
  by_cases hn : (n : Int) ≤ 200
  case neg =>
    rw [decide_eq_false hn]
    go_wp2_with fail
    refine (awake6_any _ (hT.frNo ((Fr.refl No w).alloc _))).mono ?_
    rintro e w5 ⟨rfl, f5⟩
    go_wp2_with fail
    go_ret
    exact ⟨ret_bool rfl, (((Fr.refl No w).alloc _).transNo f5).belowNo⟩
  rw [decide_eq_true hn]
  by_cases h300 : 300 < len2
  · have hd3 : decide ((300 : Int) < (len2 : Int)) = true := decide_eq_true (by omega)
    go_wp2_with fail
    refine (awake6_any _ (hT.frNo ((Fr.refl No w).alloc _))).mono ?_
    rintro e w5 ⟨rfl, f5⟩
    go_wp2_with fail
    go_ret
    exact ⟨ret_bool rfl, (((Fr.refl No w).alloc _).transNo f5).belowNo⟩
  have hd3 : decide ((300 : Int) < (len2 : Int)) = false := decide_eq_false (by omega)
  have hn' : n ≤ 200 := by omega
  obtain ⟨w1, hw1⟩ : ∃ w1, w1 = w.alloc (.cells #[.int .i64 akd, .int .i64 aet, .int .i64 atn, .int .i64 acl, .int .i64 aot, .int .i64 aep, .int .i64 afm, .int .i64 aun, .int .i64 an] TEnt) := ⟨_, rfl⟩
  obtain ⟨g1, hg1⟩ : ∃ g1, g1 = w.heap.size := ⟨_, rfl⟩
  have f1 : Fr No w w1 := by rw [hw1]; exact fr_alloc _ _
  have hb1 : Blk w1 g1 TEnt #[.int .i64 akd, .int .i64 aet, .int .i64 atn, .int .i64 acl, .int .i64 aot, .int .i64 aep, .int .i64 afm, .int .i64 aun, .int .i64 an] := by rw [hw1, hg1]; exact Blk.new _ _ _
  rw [← hw1, ← hg1]
  have hmd := made_any (cp := cp) (hl.fr f1) hn'
  clear hw1 hg1
  have HBA := Lib.hid hBa
  have HSA := Lib.hid hSa
  have HRB := Lib.hid hRb
  have HMD := Lib.hid hmd
  have HT := Lib.hid hT
  clear hBa hSa hRb hmd hT
  go_wp2_with fail
  refine HMD.out.mono ?_
  rintro r w2 ⟨c, en, rfl, hc, oe, f2⟩
  have oe' : en.ok := oe.ok
  have hBe := fun V => bytes_any en V oe'
  have hSe := fun V => shape_any en V
  have hRk := readE_back en oe' lb
  have hE_ := fun W => ent_eql en en W
  rw [decide_eq_true rfl] at hE_
  have hG_ := fun (x y : Operand) (W : World) => ent_guard .eql x y (#[.int .i64 en.kind, .int .i64 en.tick, .int .i64 en.tenant, .int .i64 en.cell, .int .i64 en.other, .int .i64 en.epoch, .int .i64 en.from_, .int .i64 en.until_, .int .i64 en.n]) (#[.int .i64 en.kind, .int .i64 en.tick, .int .i64 en.tenant, .int .i64 en.cell, .int .i64 en.other, .int .i64 en.epoch, .int .i64 en.from_, .int .i64 en.until_, .int .i64 en.n]) W
  have hle := enB_len en oe'
  revert hBe hSe hle hRk
  generalize enB en = le
  generalize shapeB en = pe
  intro hBe hSe hRk hle
  clear hc oe oe'
  obtain ⟨rg, nz, nc, nt, nv, lz_, bk, bz, bc, bvz, cz, cc, ct, cv, At, Ar, nr, cr, Ao, no_, co, bl⟩ := c
  obtain ⟨ekd, eet, etn, ecl, eot, eep, efm, eun, en⟩ := en
  unfold En.v at *
  simp only at hG_
  have HBE := Lib.hid hBe
  have HSE := Lib.hid hSe
  have HRK := Lib.hid hRk
  clear hBe hSe hRk
  go_upto_region 4 with fail
  obtain ⟨w3, hw3⟩ : ∃ w3, w3 = (w2.alloc (.cells #[.int .i64 (rg : Int), .slice (some ⟨bz, 0, none⟩) nz cz, .slice (some ⟨bc, 0, none⟩) nc cc, .slice At nt ct, .slice (some ⟨bvz, 0, none⟩) nv cv, .slice Ar nr cr, .slice Ao no_ co, .int .i64 bl, .int .i64 (lz_ : Int), .int .i64 (bk : Int)] TCf)).alloc (.cells #[.int .i64 ekd, .int .i64 eet, .int .i64 etn, .int .i64 ecl, .int .i64 eot, .int .i64 eep, .int .i64 efm, .int .i64 eun, .int .i64 en] TEnt) := ⟨_, rfl⟩
  obtain ⟨g3, hg3⟩ : ∃ g3, g3 = w2.heap.size + 1 := ⟨_, rfl⟩
  obtain ⟨g2, hg2⟩ : ∃ g2, g2 = w2.heap.size := ⟨_, rfl⟩
  have f3 : Fr No w2 w3 := by rw [hw3]; exact ((Fr.refl No w2).alloc _).alloc _
  have hb3 : Blk w3 g3 TEnt #[.int .i64 ekd, .int .i64 eet, .int .i64 etn, .int .i64 ecl, .int .i64 eot, .int .i64 eep, .int .i64 efm, .int .i64 eun, .int .i64 en] := by rw [hw3, hg3]; exact Blk.new' _ _ _ _ (by simp)
  rw [← hw3, ← hg3, ← hg2]
  clear hw3 hg3 hg2
  have f23 := f2.transNo f3
  have k1 := hb1.fr f23 (fun h => h)
  have f03 := f1.transNo f23
  have k3 := hb3
  have hS_ : ∀ V, Fr No w3 V → (V.cell? ⟨g1, 0, none⟩ = some (.int .i64 akd) ∧ V.cell? ⟨g1, 1, none⟩ = some (.int .i64 aet) ∧ V.cell? ⟨g1, 2, none⟩ = some (.int .i64 atn) ∧ V.cell? ⟨g1, 3, none⟩ = some (.int .i64 acl) ∧ V.cell? ⟨g1, 4, none⟩ = some (.int .i64 aot) ∧ V.cell? ⟨g1, 5, none⟩ = some (.int .i64 aep) ∧ V.cell? ⟨g1, 6, none⟩ = some (.int .i64 afm) ∧ V.cell? ⟨g1, 7, none⟩ = some (.int .i64 aun) ∧ V.cell? ⟨g1, 8, none⟩ = some (.int .i64 an)) ∧ (V.cell? ⟨g3, 0, none⟩ = some (.int .i64 ekd) ∧ V.cell? ⟨g3, 1, none⟩ = some (.int .i64 eet) ∧ V.cell? ⟨g3, 2, none⟩ = some (.int .i64 etn) ∧ V.cell? ⟨g3, 3, none⟩ = some (.int .i64 ecl) ∧ V.cell? ⟨g3, 4, none⟩ = some (.int .i64 eot) ∧ V.cell? ⟨g3, 5, none⟩ = some (.int .i64 eep) ∧ V.cell? ⟨g3, 6, none⟩ = some (.int .i64 efm) ∧ V.cell? ⟨g3, 7, none⟩ = some (.int .i64 eun) ∧ V.cell? ⟨g3, 8, none⟩ = some (.int .i64 en)) := fun V hV => ⟨⟨(k1.fr hV (fun h => h)).cell 0, (k1.fr hV (fun h => h)).cell 1, (k1.fr hV (fun h => h)).cell 2, (k1.fr hV (fun h => h)).cell 3, (k1.fr hV (fun h => h)).cell 4, (k1.fr hV (fun h => h)).cell 5, (k1.fr hV (fun h => h)).cell 6, (k1.fr hV (fun h => h)).cell 7, (k1.fr hV (fun h => h)).cell 8⟩, ⟨(k3.fr hV (fun h => h)).cell 0, (k3.fr hV (fun h => h)).cell 1, (k3.fr hV (fun h => h)).cell 2, (k3.fr hV (fun h => h)).cell 3, (k3.fr hV (fun h => h)).cell 4, (k3.fr hV (fun h => h)).cell 5, (k3.fr hV (fun h => h)).cell 6, (k3.fr hV (fun h => h)).cell 7, (k3.fr hV (fun h => h)).cell 8⟩⟩
  clear k1 k3 hb1 hb3 f1 f2 f3 f23
  have e3 := (hS_ w3 (Fr.refl _ _)).2
  obtain ⟨e0, e1, e2, e3, e4, e5, e6, e7, e8⟩ := e3
  have HS_ := Lib.hid hS_
  have F03 := Lib.hid f03
  clear hS_ f03
  go_wp2_with fail
  refine (HBE.out _).mono ?_
  rintro r w4 ⟨A1, c1, rfl, o1, f4⟩
  have F34 := Lib.hid f4
  have O1 := Lib.hid o1
  clear o1 f4 e0 e1 e2 e3 e4 e5 e6 e7 e8
  go_wp2_with (at_builtin; refine wpList_append_rd _ rfl (.tmp 36) (.tmp 37) _ rfl 0 5 i0 _ 1 Tryd.underlying40 hi0 hz0 hz1 hz2 rfl _ (0) ([]) rfl ?k1a (w4.heap.size) (A1) (le.length) (c1) (le.map bv) rfl ?k1b ?k1c ?k1d (bv_one _) ?k1e ?k1f (Nat.zero_le _) ?_)
  case k1a => exact (Own.made w4 5).1
  case k1b => exact O1.out.len.2
  case k1c => exact (O1.out.rd.frNo (fr_alloc _ _) (Nat.le_refl _))
  case k1d => exact (by rw [List.length_map])
  case k1e => unfold maxLen; omega
  case k1f => omega
  intro v5 w5 happ
  obtain ⟨o5, f5'⟩ := (Own.made w4 5).appendedNew (by simp) rfl (by rw [List.length_map]) happ
  rw [List.nil_append] at o5
  obtain ⟨A5, c5, rfl, n5⟩ := o5.form
  rw [List.length_map] at o5 n5 ⊢
  have f5 := (fr_alloc w4 (.cells #[] 5)).transNew f5' fun i hi => hi
  have hs5 := f5.size
  have F35 := Lib.hid (F34.out.transNo f5)
  have F45 := Lib.hid f5
  have O5 := Lib.hid o5
  clear happ f5 f5' n5 o5
  go_wp2_with (at_builtin; refine wpList_append_rd _ rfl (.tmp 38) (.tmp 39) _ rfl 0 5 i0 _ 1 Tryd.underlying40 hi0 hz0 hz1 hz2 rfl _ (le.length) (le.map bv) rfl ?k2a (w.heap.size) (a2) (len2) (cap2) (lb.map bv) rfl ?k2b ?k2c ?k2d (bv_one _) ?k2e ?k2f (Nat.zero_le _) ?_)
  case k2a => exact (O5.out.own (by rw [List.length_map]))
  case k2b => exact HLN.out
  case k2c => exact (HLR.out.frNo (F03.out.transNo F35.out) (Nat.le_refl _))
  case k2d => exact (by rw [List.length_map, HLB.out])
  case k2e => unfold maxLen; omega
  case k2f => omega
  intro v6 w6 happ
  obtain ⟨o6, f6⟩ := O5.out.appendedNew hs5 (by rw [List.length_map]) (by rw [List.length_map, HLB.out]) happ
  rw [← List.map_append] at o6
  obtain ⟨A6, c6, rfl, n6⟩ := o6.form
  have e6 : ((le ++ lb).map bv).length = le.length + len2 := by rw [List.length_map, List.length_append, HLB.out]
  rw [e6] at o6 n6 ⊢
  have F36 := Lib.hid (F34.out.transNo (F45.out.transNew f6 (fun i hi => hi)))
  have r6 := read_any A6 (le.length + len2) c6 (le ++ lb) w6 w6.heap.size o6.len.2 (by rw [List.length_append, HLB.out]) (by unfold maxLen; omega) o6.cap.1 o6.rd (Nat.le_refl _)
  rw [HRK.out] at r6
  obtain ⟨t6, ht6⟩ : ∃ t : RdT, t = if pe = true then ⟨⟨ekd, eet, etn, ecl, eot, eep, efm, eun, en⟩, le.length, 0⟩ else ⟨enZero, 0, 18⟩ := ⟨_, rfl⟩
  rw [← ht6] at r6
  obtain ⟨⟨ukd, uet, utn, ucl, uot, uep, ufm, uun, un⟩, k6, x6⟩ := t6
  unfold RdTo at r6
  simp only [En.v] at r6
  clear happ f6 n6 o6 e6 O5 O1 F34 F35 F45 hs5 HRK
  have hN6 := hE_
  have hF := F03.out.transNo F36.out
  have HT6 := Lib.hid ht6
  have R6 := Lib.hid r6
  have HF := Lib.hid hF
  clear ht6 r6 hF
  go_wp2_with fail
  refine R6.out.mono ?_
  rintro r w7 ⟨rfl, f7⟩
  have hs3 : ∀ V, Fr No w7 V → (V.cell? ⟨g1, 0, none⟩ = some (.int .i64 akd) ∧ V.cell? ⟨g1, 1, none⟩ = some (.int .i64 aet) ∧ V.cell? ⟨g1, 2, none⟩ = some (.int .i64 atn) ∧ V.cell? ⟨g1, 3, none⟩ = some (.int .i64 acl) ∧ V.cell? ⟨g1, 4, none⟩ = some (.int .i64 aot) ∧ V.cell? ⟨g1, 5, none⟩ = some (.int .i64 aep) ∧ V.cell? ⟨g1, 6, none⟩ = some (.int .i64 afm) ∧ V.cell? ⟨g1, 7, none⟩ = some (.int .i64 aun) ∧ V.cell? ⟨g1, 8, none⟩ = some (.int .i64 an)) ∧ (V.cell? ⟨g3, 0, none⟩ = some (.int .i64 ekd) ∧ V.cell? ⟨g3, 1, none⟩ = some (.int .i64 eet) ∧ V.cell? ⟨g3, 2, none⟩ = some (.int .i64 etn) ∧ V.cell? ⟨g3, 3, none⟩ = some (.int .i64 ecl) ∧ V.cell? ⟨g3, 4, none⟩ = some (.int .i64 eot) ∧ V.cell? ⟨g3, 5, none⟩ = some (.int .i64 eep) ∧ V.cell? ⟨g3, 6, none⟩ = some (.int .i64 efm) ∧ V.cell? ⟨g3, 7, none⟩ = some (.int .i64 eun) ∧ V.cell? ⟨g3, 8, none⟩ = some (.int .i64 en)) := fun V hV => HS_.out V (F36.out.transNo (f7.transNo hV))
  replace hF := Lib.hid (HF.out.transNo f7)
  clear HS_ F36 f7 HF R6
  have HS3 := Lib.hid hs3
  clear hs3
  go_upto_region 6 with fail
  obtain ⟨w8, hw8⟩ : ∃ w8, w8 = w7.alloc (.cells #[.int .i64 ukd, .int .i64 uet, .int .i64 utn, .int .i64 ucl, .int .i64 uot, .int .i64 uep, .int .i64 ufm, .int .i64 uun, .int .i64 un] TEnt) := ⟨_, rfl⟩
  obtain ⟨gu, hgu⟩ : ∃ g, g = w7.heap.size := ⟨_, rfl⟩
  have f8 : Fr No w7 w8 := by rw [hw8]; exact fr_alloc _ _
  have bu : Blk w8 gu TEnt #[.int .i64 ukd, .int .i64 uet, .int .i64 utn, .int .i64 ucl, .int .i64 uot, .int .i64 uep, .int .i64 ufm, .int .i64 uun, .int .i64 un] := by rw [hw8, hgu]; exact Blk.new _ _ _
  rw [← hw8, ← hgu]
  clear hw8 hgu
  have hs4 : ∀ V, Fr No w8 V → ((V.cell? ⟨g1, 0, none⟩ = some (.int .i64 akd) ∧ V.cell? ⟨g1, 1, none⟩ = some (.int .i64 aet) ∧ V.cell? ⟨g1, 2, none⟩ = some (.int .i64 atn) ∧ V.cell? ⟨g1, 3, none⟩ = some (.int .i64 acl) ∧ V.cell? ⟨g1, 4, none⟩ = some (.int .i64 aot) ∧ V.cell? ⟨g1, 5, none⟩ = some (.int .i64 aep) ∧ V.cell? ⟨g1, 6, none⟩ = some (.int .i64 afm) ∧ V.cell? ⟨g1, 7, none⟩ = some (.int .i64 aun) ∧ V.cell? ⟨g1, 8, none⟩ = some (.int .i64 an)) ∧ (V.cell? ⟨g3, 0, none⟩ = some (.int .i64 ekd) ∧ V.cell? ⟨g3, 1, none⟩ = some (.int .i64 eet) ∧ V.cell? ⟨g3, 2, none⟩ = some (.int .i64 etn) ∧ V.cell? ⟨g3, 3, none⟩ = some (.int .i64 ecl) ∧ V.cell? ⟨g3, 4, none⟩ = some (.int .i64 eot) ∧ V.cell? ⟨g3, 5, none⟩ = some (.int .i64 eep) ∧ V.cell? ⟨g3, 6, none⟩ = some (.int .i64 efm) ∧ V.cell? ⟨g3, 7, none⟩ = some (.int .i64 eun) ∧ V.cell? ⟨g3, 8, none⟩ = some (.int .i64 en))) ∧ (V.cell? ⟨gu, 0, none⟩ = some (.int .i64 ukd) ∧ V.cell? ⟨gu, 1, none⟩ = some (.int .i64 uet) ∧ V.cell? ⟨gu, 2, none⟩ = some (.int .i64 utn) ∧ V.cell? ⟨gu, 3, none⟩ = some (.int .i64 ucl) ∧ V.cell? ⟨gu, 4, none⟩ = some (.int .i64 uot) ∧ V.cell? ⟨gu, 5, none⟩ = some (.int .i64 uep) ∧ V.cell? ⟨gu, 6, none⟩ = some (.int .i64 ufm) ∧ V.cell? ⟨gu, 7, none⟩ = some (.int .i64 uun) ∧ V.cell? ⟨gu, 8, none⟩ = some (.int .i64 un)) := fun V hV => ⟨HS3.out V (f8.transNo hV), ⟨(bu.fr hV (fun h => h)).cell 0, (bu.fr hV (fun h => h)).cell 1, (bu.fr hV (fun h => h)).cell 2, (bu.fr hV (fun h => h)).cell 3, (bu.fr hV (fun h => h)).cell 4, (bu.fr hV (fun h => h)).cell 5, (bu.fr hV (fun h => h)).cell 6, (bu.fr hV (fun h => h)).cell 7, (bu.fr hV (fun h => h)).cell 8⟩⟩
  replace hF := Lib.hid (hF.out.transNo f8)
  clear bu f8 HS3
  have HS4 := Lib.hid hs4
  clear hs4
  have r7 := read_any a2 len2 cap2 lb w8 w.heap.size HLN.out HLB.out (by unfold maxLen; omega) hlc (HLR.out.frNo hF.out (Nat.le_refl _)) hF.out.size
  have hcan := readE_canon lb
  revert r7 hcan
  generalize readE lb = t7
  obtain ⟨⟨ykd, yet, ytn, ycl, yot, yep, yfm, yun, yn⟩, k7, x7⟩ := t7
  intro r7 hcan
  unfold RdTo at r7
  simp only [En.v] at r7 hcan
  have R7 := Lib.hid r7
  have HCAN := Lib.hid hcan
  clear r7 hcan
  go_wp2_with fail
  refine R7.out.mono ?_
  rintro r w9 ⟨rfl, f9⟩
  replace hF := Lib.hid (hF.out.transNo f9)
  have hs5 : ∀ V, Fr No w9 V → ((V.cell? ⟨g1, 0, none⟩ = some (.int .i64 akd) ∧ V.cell? ⟨g1, 1, none⟩ = some (.int .i64 aet) ∧ V.cell? ⟨g1, 2, none⟩ = some (.int .i64 atn) ∧ V.cell? ⟨g1, 3, none⟩ = some (.int .i64 acl) ∧ V.cell? ⟨g1, 4, none⟩ = some (.int .i64 aot) ∧ V.cell? ⟨g1, 5, none⟩ = some (.int .i64 aep) ∧ V.cell? ⟨g1, 6, none⟩ = some (.int .i64 afm) ∧ V.cell? ⟨g1, 7, none⟩ = some (.int .i64 aun) ∧ V.cell? ⟨g1, 8, none⟩ = some (.int .i64 an)) ∧ (V.cell? ⟨g3, 0, none⟩ = some (.int .i64 ekd) ∧ V.cell? ⟨g3, 1, none⟩ = some (.int .i64 eet) ∧ V.cell? ⟨g3, 2, none⟩ = some (.int .i64 etn) ∧ V.cell? ⟨g3, 3, none⟩ = some (.int .i64 ecl) ∧ V.cell? ⟨g3, 4, none⟩ = some (.int .i64 eot) ∧ V.cell? ⟨g3, 5, none⟩ = some (.int .i64 eep) ∧ V.cell? ⟨g3, 6, none⟩ = some (.int .i64 efm) ∧ V.cell? ⟨g3, 7, none⟩ = some (.int .i64 eun) ∧ V.cell? ⟨g3, 8, none⟩ = some (.int .i64 en))) ∧ (V.cell? ⟨gu, 0, none⟩ = some (.int .i64 ukd) ∧ V.cell? ⟨gu, 1, none⟩ = some (.int .i64 uet) ∧ V.cell? ⟨gu, 2, none⟩ = some (.int .i64 utn) ∧ V.cell? ⟨gu, 3, none⟩ = some (.int .i64 ucl) ∧ V.cell? ⟨gu, 4, none⟩ = some (.int .i64 uot) ∧ V.cell? ⟨gu, 5, none⟩ = some (.int .i64 uep) ∧ V.cell? ⟨gu, 6, none⟩ = some (.int .i64 ufm) ∧ V.cell? ⟨gu, 7, none⟩ = some (.int .i64 uun) ∧ V.cell? ⟨gu, 8, none⟩ = some (.int .i64 un)) := fun V hV => HS4.out V (f9.transNo hV)
  clear HS4 f9 R7
  have HS5 := Lib.hid hs5
  clear hs5
  go_upto_region 7 with fail
  obtain ⟨wa, hwa⟩ : ∃ wa, wa = w9.alloc (.cells #[.int .i64 ykd, .int .i64 yet, .int .i64 ytn, .int .i64 ycl, .int .i64 yot, .int .i64 yep, .int .i64 yfm, .int .i64 yun, .int .i64 yn] TEnt) := ⟨_, rfl⟩
  obtain ⟨gy, hgy⟩ : ∃ g, g = w9.heap.size := ⟨_, rfl⟩
  have fa : Fr No w9 wa := by rw [hwa]; exact fr_alloc _ _
  have by_ : Blk wa gy TEnt #[.int .i64 ykd, .int .i64 yet, .int .i64 ytn, .int .i64 ycl, .int .i64 yot, .int .i64 yep, .int .i64 yfm, .int .i64 yun, .int .i64 yn] := by rw [hwa, hgy]; exact Blk.new _ _ _
  rw [← hwa, ← hgy]
  clear hwa hgy
  have hs6 : ∀ V, Fr No wa V → ((V.cell? ⟨g1, 0, none⟩ = some (.int .i64 akd) ∧ V.cell? ⟨g1, 1, none⟩ = some (.int .i64 aet) ∧ V.cell? ⟨g1, 2, none⟩ = some (.int .i64 atn) ∧ V.cell? ⟨g1, 3, none⟩ = some (.int .i64 acl) ∧ V.cell? ⟨g1, 4, none⟩ = some (.int .i64 aot) ∧ V.cell? ⟨g1, 5, none⟩ = some (.int .i64 aep) ∧ V.cell? ⟨g1, 6, none⟩ = some (.int .i64 afm) ∧ V.cell? ⟨g1, 7, none⟩ = some (.int .i64 aun) ∧ V.cell? ⟨g1, 8, none⟩ = some (.int .i64 an)) ∧ (V.cell? ⟨g3, 0, none⟩ = some (.int .i64 ekd) ∧ V.cell? ⟨g3, 1, none⟩ = some (.int .i64 eet) ∧ V.cell? ⟨g3, 2, none⟩ = some (.int .i64 etn) ∧ V.cell? ⟨g3, 3, none⟩ = some (.int .i64 ecl) ∧ V.cell? ⟨g3, 4, none⟩ = some (.int .i64 eot) ∧ V.cell? ⟨g3, 5, none⟩ = some (.int .i64 eep) ∧ V.cell? ⟨g3, 6, none⟩ = some (.int .i64 efm) ∧ V.cell? ⟨g3, 7, none⟩ = some (.int .i64 eun) ∧ V.cell? ⟨g3, 8, none⟩ = some (.int .i64 en))) ∧ (V.cell? ⟨gu, 0, none⟩ = some (.int .i64 ukd) ∧ V.cell? ⟨gu, 1, none⟩ = some (.int .i64 uet) ∧ V.cell? ⟨gu, 2, none⟩ = some (.int .i64 utn) ∧ V.cell? ⟨gu, 3, none⟩ = some (.int .i64 ucl) ∧ V.cell? ⟨gu, 4, none⟩ = some (.int .i64 uot) ∧ V.cell? ⟨gu, 5, none⟩ = some (.int .i64 uep) ∧ V.cell? ⟨gu, 6, none⟩ = some (.int .i64 ufm) ∧ V.cell? ⟨gu, 7, none⟩ = some (.int .i64 uun) ∧ V.cell? ⟨gu, 8, none⟩ = some (.int .i64 un)) := fun V hV => HS5.out V (fa.transNo hV)
  have hy_ : ∀ V, Fr No wa V → V.cell? ⟨gy, 0, none⟩ = some (.int .i64 ykd) ∧ V.cell? ⟨gy, 1, none⟩ = some (.int .i64 yet) ∧ V.cell? ⟨gy, 2, none⟩ = some (.int .i64 ytn) ∧ V.cell? ⟨gy, 3, none⟩ = some (.int .i64 ycl) ∧ V.cell? ⟨gy, 4, none⟩ = some (.int .i64 yot) ∧ V.cell? ⟨gy, 5, none⟩ = some (.int .i64 yep) ∧ V.cell? ⟨gy, 6, none⟩ = some (.int .i64 yfm) ∧ V.cell? ⟨gy, 7, none⟩ = some (.int .i64 yun) ∧ V.cell? ⟨gy, 8, none⟩ = some (.int .i64 yn) := fun V hV => ⟨(by_.fr hV (fun h => h)).cell 0, (by_.fr hV (fun h => h)).cell 1, (by_.fr hV (fun h => h)).cell 2, (by_.fr hV (fun h => h)).cell 3, (by_.fr hV (fun h => h)).cell 4, (by_.fr hV (fun h => h)).cell 5, (by_.fr hV (fun h => h)).cell 6, (by_.fr hV (fun h => h)).cell 7, (by_.fr hV (fun h => h)).cell 8⟩
  replace hF := Lib.hid (hF.out.transNo fa)
  clear by_ fa HS5
  have HS6 := Lib.hid hs6
  have HY_ := Lib.hid hy_
  clear hs6 hy_
  go_cut [71] from 51 to 71 (fun x wx => x = .bool false ∧ Fr No wa wx)
  case first =>
    have FF := Lib.hid ((Fr.refl No wa).drew)
    by_cases h7 : x7 = 0
    · obtain ⟨oy, hk1, hk2, hk3, hk4⟩ := HCAN.out h7
      subst h7
      have hlb' := HLB.out
      have d1 : decide ((k7 : Int) < 1) = false := decide_eq_false (by omega)
      have d2 : decide ((len2 : Int) < (k7 : Int)) = false := decide_eq_false (by omega)
      have d2' : decide (len2 < k7) = false := decide_eq_false (by omega)
      have k0 : (0 : Int) ≤ (k7 : Int) := by omega
      have kc : (k7 : Int) ≤ (cap2 : Int) := by omega
      have hBy := fun V => bytes_any ⟨ykd, yet, ytn, ycl, yot, yep, yfm, yun, yn⟩ V oy
      revert hk3 hk4 hBy
      generalize enB ⟨ykd, yet, ytn, ycl, yot, yep, yfm, yun, yn⟩ = ly
      intro hk3 hk4 hBy
      simp only [En.v] at hBy
      clear oy
      have hsm := fun (V : World) (A : Option Addr) (c : Nat) (hO : Own V (fun i => wa.heap.size ≤ i) 5 (.slice A ly.length c) (ly.map bv)) (hV : Fr No w V) => same_bytes A a2 ly.length c k7 cap2 ly (lb.take k7) _ _ V hO.len.2 rfl hO.rd (fun h => by have := HLN.out h; omega) (by rw [List.length_take]; omega) (by rw [List.map_take]; exact (HLR.out.frNo hV (Nat.le_refl _)).take k7)
      rw [hk4, beq_self_eq_true] at hsm
      have HBY := Lib.hid hBy
      have HSM := Lib.hid hsm
      have HK3 := Lib.hid hk3
      have HK4 := Lib.hid hk4
      clear hBy hsm hk3 hk4
      clear hlb'
      go_region_held3 (fun V => (V.cell? ⟨gy, 0, none⟩ = some (.int .i64 ykd) ∧ V.cell? ⟨gy, 1, none⟩ = some (.int .i64 yet) ∧ V.cell? ⟨gy, 2, none⟩ = some (.int .i64 ytn) ∧ V.cell? ⟨gy, 3, none⟩ = some (.int .i64 ycl) ∧ V.cell? ⟨gy, 4, none⟩ = some (.int .i64 yot) ∧ V.cell? ⟨gy, 5, none⟩ = some (.int .i64 yep) ∧ V.cell? ⟨gy, 6, none⟩ = some (.int .i64 yfm) ∧ V.cell? ⟨gy, 7, none⟩ = some (.int .i64 yun) ∧ V.cell? ⟨gy, 8, none⟩ = some (.int .i64 yn)) ∧ Fr No wa V) (exact ⟨HY_.out _ FF.out, FF.out⟩) (first
        | (go_at_call 21; (refine (HBY.out _).mono ?_); rintro r v6 ⟨A8, c8, rfl, o8, f6⟩; have O8 := Lib.hid (o8.mono (G := fun i => wa.heap.size ≤ i) fun i hi => by have := FF.out.size; omega); replace FF := Lib.hid (FF.out.transNo f6); clear o8 f6)
        | (go_at_call 20; refine (HSM.out _ _ _ O8.out (hF.out.transNo FF.out)).mono ?_; rintro e v9 ⟨rfl, rfl⟩; clear O8))
      all_goals go_wp2_with fail
      all_goals go_meet
      all_goals exact ⟨rfl, FF.out⟩
    · have h7b : (x7 == 0) = false := by simp [h7]
      clear h7
      refine wp_region_held_drew (S := fun V => (V.cell? ⟨gy, 0, none⟩ = some (.int .i64 ykd) ∧ V.cell? ⟨gy, 1, none⟩ = some (.int .i64 yet) ∧ V.cell? ⟨gy, 2, none⟩ = some (.int .i64 ytn) ∧ V.cell? ⟨gy, 3, none⟩ = some (.int .i64 ycl) ∧ V.cell? ⟨gy, 4, none⟩ = some (.int .i64 yot) ∧ V.cell? ⟨gy, 5, none⟩ = some (.int .i64 yep) ∧ V.cell? ⟨gy, 6, none⟩ = some (.int .i64 yfm) ∧ V.cell? ⟨gy, 7, none⟩ = some (.int .i64 yun) ∧ V.cell? ⟨gy, 8, none⟩ = some (.int .i64 yn)) ∧ Fr No wa V) (by kernel_rfl) (⟨HY_.out _ FF.out, FF.out⟩) (fun hHeld => ?_)
      refine wpAnyH_take (i := 0) (v := ?_) rfl (by kernel_rfl) (by kernel_rfl) (by kernel_rfl) (fun _ _ _ h => h) (Or.inl ⟨by rfl, ?_⟩) (by assumption) ?_
      rotate_left
      · (intro w hSw; (try dsimp only at hSw); go_simp) <;> with_reducible rfl
      simp only [Act.put, List.setIfInBounds_toArray, List.set_cons_zero, List.set_cons_succ, List.getElem_toArray, List.getElem_cons_zero]
      refine wpAnyH_take (i := 1) (v := ?_) rfl (by kernel_rfl) (by kernel_rfl) (by kernel_rfl) (fun _ _ _ h => h) (Or.inl ⟨by rfl, ?_⟩) (by assumption) ?_
      rotate_left
      · (intro w hSw; (try dsimp only at hSw); go_simp) <;> with_reducible rfl
      simp only [Act.put, List.setIfInBounds_toArray, List.set_cons_zero, List.set_cons_succ, List.getElem_toArray, List.getElem_cons_zero, List.getElem_cons_succ]
      refine wpAnyH_take (i := 2) (v := ?_) rfl (by kernel_rfl) (by kernel_rfl) (by kernel_rfl) (fun _ _ _ h => h) (Or.inl ⟨by rfl, ?_⟩) (by assumption) ?_
      rotate_left
      · (intro w hSw; (try dsimp only at hSw); go_simp) <;> with_reducible rfl
      simp only [Act.put, List.setIfInBounds_toArray, List.set_cons_zero, List.set_cons_succ, List.getElem_toArray, List.getElem_cons_zero, List.getElem_cons_succ]
      refine wpAnyH_take (i := 3) (v := undef) rfl (by kernel_rfl) (by kernel_rfl) (by kernel_rfl) (fun _ _ _ h => h) (Or.inr ⟨by rfl, rfl⟩) (by assumption) ?_
      simp only [Act.put, List.setIfInBounds_toArray, List.set_cons_zero, List.set_cons_succ, List.getElem_toArray, List.getElem_cons_zero, List.getElem_cons_succ]
      refine wpAnyH_take (i := 4) (v := undef) rfl (by kernel_rfl) (by kernel_rfl) (by kernel_rfl) (fun _ _ _ h => h) (Or.inr ⟨by rfl, rfl⟩) (by assumption) ?_
      simp only [Act.put, List.setIfInBounds_toArray, List.set_cons_zero, List.set_cons_succ, List.getElem_toArray, List.getElem_cons_zero, List.getElem_cons_succ]
      refine wpAnyH_take (i := 5) (v := undef) rfl (by kernel_rfl) (by kernel_rfl) (by kernel_rfl) (fun _ _ _ h => h) (Or.inr ⟨by rfl, rfl⟩) (by assumption) ?_
      simp only [Act.put, List.setIfInBounds_toArray, List.set_cons_zero, List.set_cons_succ, List.getElem_toArray, List.getElem_cons_zero, List.getElem_cons_succ]
      refine wpAnyH_take (i := 6) (v := undef) rfl (by kernel_rfl) (by kernel_rfl) (by kernel_rfl) (fun _ _ _ h => h) (Or.inr ⟨by rfl, rfl⟩) (by assumption) ?_
      simp only [Act.put, List.setIfInBounds_toArray, List.set_cons_zero, List.set_cons_succ, List.getElem_toArray, List.getElem_cons_zero, List.getElem_cons_succ]
      refine wpAnyH_take (i := 7) (v := undef) rfl (by kernel_rfl) (by kernel_rfl) (by kernel_rfl) (fun _ _ _ h => h) (Or.inr ⟨by rfl, rfl⟩) (by assumption) ?_
      simp only [Act.put, List.setIfInBounds_toArray, List.set_cons_zero, List.set_cons_succ, List.getElem_toArray, List.getElem_cons_zero, List.getElem_cons_succ]
      refine wpAnyH_take (i := 8) (v := undef) rfl (by kernel_rfl) (by kernel_rfl) (by kernel_rfl) (fun _ _ _ h => h) (Or.inr ⟨by rfl, rfl⟩) (by assumption) ?_
      simp only [Act.put, List.setIfInBounds_toArray, List.set_cons_zero, List.set_cons_succ, List.getElem_toArray, List.getElem_cons_zero, List.getElem_cons_succ]
      refine wpAnyH_take (i := 9) (v := undef) rfl (by kernel_rfl) (by kernel_rfl) (by kernel_rfl) (fun _ _ _ h => h) (Or.inr ⟨by rfl, rfl⟩) (by assumption) ?_
      simp only [Act.put, List.setIfInBounds_toArray, List.set_cons_zero, List.set_cons_succ, List.getElem_toArray, List.getElem_cons_zero, List.getElem_cons_succ]
      refine wpAnyH_take (i := 10) (v := undef) rfl (by kernel_rfl) (by kernel_rfl) (by kernel_rfl) (fun _ _ _ h => h) (Or.inr ⟨by rfl, rfl⟩) (by assumption) ?_
      simp only [Act.put, List.setIfInBounds_toArray, List.set_cons_zero, List.set_cons_succ, List.getElem_toArray, List.getElem_cons_zero, List.getElem_cons_succ]
      refine wpAnyH_take (i := 11) (v := undef) rfl (by kernel_rfl) (by kernel_rfl) (by kernel_rfl) (fun _ _ _ h => h) (Or.inr ⟨by rfl, rfl⟩) (by assumption) ?_
      simp only [Act.put, List.setIfInBounds_toArray, List.set_cons_zero, List.set_cons_succ, List.getElem_toArray, List.getElem_cons_zero, List.getElem_cons_succ]
      refine wpAnyH_take (i := 12) (v := undef) rfl (by kernel_rfl) (by kernel_rfl) (by kernel_rfl) (fun _ _ _ h => h) (Or.inr ⟨by rfl, rfl⟩) (by assumption) ?_
      simp only [Act.put, List.setIfInBounds_toArray, List.set_cons_zero, List.set_cons_succ, List.getElem_toArray, List.getElem_cons_zero, List.getElem_cons_succ]
      refine wpAnyH_take (i := 13) (v := undef) rfl (by kernel_rfl) (by kernel_rfl) (by kernel_rfl) (fun _ _ _ h => h) (Or.inr ⟨by rfl, rfl⟩) (by assumption) ?_
      simp only [Act.put, List.setIfInBounds_toArray, List.set_cons_zero, List.set_cons_succ, List.getElem_toArray, List.getElem_cons_zero, List.getElem_cons_succ]
      refine wpAnyH_take (i := 14) (v := undef) rfl (by kernel_rfl) (by kernel_rfl) (by kernel_rfl) (fun _ _ _ h => h) (Or.inr ⟨by rfl, rfl⟩) (by assumption) ?_
      simp only [Act.put, List.setIfInBounds_toArray, List.set_cons_zero, List.set_cons_succ, List.getElem_toArray, List.getElem_cons_zero, List.getElem_cons_succ]
      refine wpAnyH_take (i := 15) (v := undef) rfl (by kernel_rfl) (by kernel_rfl) (by kernel_rfl) (fun _ _ _ h => h) (Or.inr ⟨by rfl, rfl⟩) (by assumption) ?_
      simp only [Act.put, List.setIfInBounds_toArray, List.set_cons_zero, List.set_cons_succ, List.getElem_toArray, List.getElem_cons_zero, List.getElem_cons_succ]
      refine wpAnyH_take (i := 16) (v := undef) rfl (by kernel_rfl) (by kernel_rfl) (by kernel_rfl) (fun _ _ _ h => h) (Or.inr ⟨by rfl, rfl⟩) (by assumption) ?_
      simp only [Act.put, List.setIfInBounds_toArray, List.set_cons_zero, List.set_cons_succ, List.getElem_toArray, List.getElem_cons_zero, List.getElem_cons_succ]
      refine wpAnyH_take (i := 17) (v := undef) rfl (by kernel_rfl) (by kernel_rfl) (by kernel_rfl) (fun _ _ _ h => h) (Or.inr ⟨by rfl, rfl⟩) (by assumption) ?_
      simp only [Act.put, List.setIfInBounds_toArray, List.set_cons_zero, List.set_cons_succ, List.getElem_toArray, List.getElem_cons_zero, List.getElem_cons_succ]
      refine wpAnyH_take (i := 18) (v := undef) rfl (by kernel_rfl) (by kernel_rfl) (by kernel_rfl) (fun _ _ _ h => h) (Or.inr ⟨by rfl, rfl⟩) (by assumption) ?_
      simp only [Act.put, List.setIfInBounds_toArray, List.set_cons_zero, List.set_cons_succ, List.getElem_toArray, List.getElem_cons_zero, List.getElem_cons_succ]
      refine wpAnyH_take (i := 19) (v := undef) rfl (by kernel_rfl) (by kernel_rfl) (by kernel_rfl) (fun _ _ _ h => h) (Or.inr ⟨by rfl, rfl⟩) (by assumption) ?_
      simp only [Act.put, List.setIfInBounds_toArray, List.set_cons_zero, List.set_cons_succ, List.getElem_toArray, List.getElem_cons_zero, List.getElem_cons_succ]
      refine wpAnyH_take (i := 20) (v := ?_) rfl (by kernel_rfl) (by kernel_rfl) (by kernel_rfl) (fun _ _ _ h => h) (Or.inl ⟨by rfl, ?_⟩) (by assumption) ?_
      rotate_left
      · (intro w hSw; (try dsimp only at hSw); go_simp) <;> with_reducible rfl
      simp only [Act.put, List.setIfInBounds_toArray, List.set_cons_zero, List.set_cons_succ, List.getElem_toArray, List.getElem_cons_zero, List.getElem_cons_succ]
      refine wpAnyH_done (by kernel_rfl) ?_ _
      go_wp2_with fail
      go_meet
      exact ⟨rfl, FF.out⟩
  obtain ⟨rfl, f11⟩ := hcut
  have hs7 : ∀ V, Fr No wc V → ((V.cell? ⟨g1, 0, none⟩ = some (.int .i64 akd) ∧ V.cell? ⟨g1, 1, none⟩ = some (.int .i64 aet) ∧ V.cell? ⟨g1, 2, none⟩ = some (.int .i64 atn) ∧ V.cell? ⟨g1, 3, none⟩ = some (.int .i64 acl) ∧ V.cell? ⟨g1, 4, none⟩ = some (.int .i64 aot) ∧ V.cell? ⟨g1, 5, none⟩ = some (.int .i64 aep) ∧ V.cell? ⟨g1, 6, none⟩ = some (.int .i64 afm) ∧ V.cell? ⟨g1, 7, none⟩ = some (.int .i64 aun) ∧ V.cell? ⟨g1, 8, none⟩ = some (.int .i64 an)) ∧ (V.cell? ⟨g3, 0, none⟩ = some (.int .i64 ekd) ∧ V.cell? ⟨g3, 1, none⟩ = some (.int .i64 eet) ∧ V.cell? ⟨g3, 2, none⟩ = some (.int .i64 etn) ∧ V.cell? ⟨g3, 3, none⟩ = some (.int .i64 ecl) ∧ V.cell? ⟨g3, 4, none⟩ = some (.int .i64 eot) ∧ V.cell? ⟨g3, 5, none⟩ = some (.int .i64 eep) ∧ V.cell? ⟨g3, 6, none⟩ = some (.int .i64 efm) ∧ V.cell? ⟨g3, 7, none⟩ = some (.int .i64 eun) ∧ V.cell? ⟨g3, 8, none⟩ = some (.int .i64 en))) ∧ (V.cell? ⟨gu, 0, none⟩ = some (.int .i64 ukd) ∧ V.cell? ⟨gu, 1, none⟩ = some (.int .i64 uet) ∧ V.cell? ⟨gu, 2, none⟩ = some (.int .i64 utn) ∧ V.cell? ⟨gu, 3, none⟩ = some (.int .i64 ucl) ∧ V.cell? ⟨gu, 4, none⟩ = some (.int .i64 uot) ∧ V.cell? ⟨gu, 5, none⟩ = some (.int .i64 uep) ∧ V.cell? ⟨gu, 6, none⟩ = some (.int .i64 ufm) ∧ V.cell? ⟨gu, 7, none⟩ = some (.int .i64 uun) ∧ V.cell? ⟨gu, 8, none⟩ = some (.int .i64 un)) := fun V hV => HS6.out V (f11.transNo hV)
  replace hF := Lib.hid (hF.out.transNo f11)
  clear HY_ HS6 f11 HCAN HLN HLR HLB
  have HS7 := Lib.hid hs7
  clear hs7
  have q7 := HS7.out wc (Fr.refl _ _)
  obtain ⟨⟨⟨r0, r1, r2, r3, r4, r5, r6, r7, r8⟩, _⟩, _⟩ := q7
  go_wp2_with fail
  refine (HBA.out _).mono ?_
  rintro r wd ⟨A9, c9, rfl, o9, f9⟩
  have rr := read_any A9 la.length c9 la wd wd.heap.size o9.len.2 rfl (by unfold maxLen; omega) o9.cap.1 o9.rd (Nat.le_refl _)
  rw [HRB.out] at rr
  obtain ⟨t8, ht8⟩ : ∃ t : RdT, t = if pa = true then ⟨⟨akd, aet, atn, acl, aot, aep, afm, aun, an⟩, la.length, 0⟩ else ⟨enZero, 0, 18⟩ := ⟨_, rfl⟩
  rw [← ht8] at rr
  obtain ⟨⟨vkd, vet, vtn, vcl, vot, vep, vfm, vun, vn⟩, k8, x8⟩ := t8
  unfold RdTo at rr
  simp only [En.v] at rr
  replace hF := Lib.hid (hF.out.transNo f9)
  have hs8 : ∀ V, Fr No wd V → ((V.cell? ⟨g1, 0, none⟩ = some (.int .i64 akd) ∧ V.cell? ⟨g1, 1, none⟩ = some (.int .i64 aet) ∧ V.cell? ⟨g1, 2, none⟩ = some (.int .i64 atn) ∧ V.cell? ⟨g1, 3, none⟩ = some (.int .i64 acl) ∧ V.cell? ⟨g1, 4, none⟩ = some (.int .i64 aot) ∧ V.cell? ⟨g1, 5, none⟩ = some (.int .i64 aep) ∧ V.cell? ⟨g1, 6, none⟩ = some (.int .i64 afm) ∧ V.cell? ⟨g1, 7, none⟩ = some (.int .i64 aun) ∧ V.cell? ⟨g1, 8, none⟩ = some (.int .i64 an)) ∧ (V.cell? ⟨g3, 0, none⟩ = some (.int .i64 ekd) ∧ V.cell? ⟨g3, 1, none⟩ = some (.int .i64 eet) ∧ V.cell? ⟨g3, 2, none⟩ = some (.int .i64 etn) ∧ V.cell? ⟨g3, 3, none⟩ = some (.int .i64 ecl) ∧ V.cell? ⟨g3, 4, none⟩ = some (.int .i64 eot) ∧ V.cell? ⟨g3, 5, none⟩ = some (.int .i64 eep) ∧ V.cell? ⟨g3, 6, none⟩ = some (.int .i64 efm) ∧ V.cell? ⟨g3, 7, none⟩ = some (.int .i64 eun) ∧ V.cell? ⟨g3, 8, none⟩ = some (.int .i64 en))) ∧ (V.cell? ⟨gu, 0, none⟩ = some (.int .i64 ukd) ∧ V.cell? ⟨gu, 1, none⟩ = some (.int .i64 uet) ∧ V.cell? ⟨gu, 2, none⟩ = some (.int .i64 utn) ∧ V.cell? ⟨gu, 3, none⟩ = some (.int .i64 ucl) ∧ V.cell? ⟨gu, 4, none⟩ = some (.int .i64 uot) ∧ V.cell? ⟨gu, 5, none⟩ = some (.int .i64 uep) ∧ V.cell? ⟨gu, 6, none⟩ = some (.int .i64 ufm) ∧ V.cell? ⟨gu, 7, none⟩ = some (.int .i64 uun) ∧ V.cell? ⟨gu, 8, none⟩ = some (.int .i64 un)) := fun V hV => HS7.out V (f9.transNo hV)
  clear HS7 o9 f9 HRB r0 r1 r2 r3 r4 r5 r6 r7 r8
  have RR := Lib.hid rr
  have HT8 := Lib.hid ht8
  have HS8 := Lib.hid hs8
  clear rr ht8 hs8
  go_wp2_with fail
  refine RR.out.mono ?_
  rintro r we ⟨rfl, fe⟩
  go_upto_region 10 with fail
  obtain ⟨wf, hwf⟩ : ∃ wf, wf = we.alloc (.cells #[.int .i64 vkd, .int .i64 vet, .int .i64 vtn, .int .i64 vcl, .int .i64 vot, .int .i64 vep, .int .i64 vfm, .int .i64 vun, .int .i64 vn] TEnt) := ⟨_, rfl⟩
  obtain ⟨gv, hgv⟩ : ∃ g, g = we.heap.size := ⟨_, rfl⟩
  have ff : Fr No we wf := by rw [hwf]; exact fr_alloc _ _
  rw [← hwf, ← hgv]
  clear hwf hgv
  replace hF := Lib.hid (hF.out.transNo (fe.transNo ff))
  have hs9 : ∀ V, Fr No wf V → ((V.cell? ⟨g1, 0, none⟩ = some (.int .i64 akd) ∧ V.cell? ⟨g1, 1, none⟩ = some (.int .i64 aet) ∧ V.cell? ⟨g1, 2, none⟩ = some (.int .i64 atn) ∧ V.cell? ⟨g1, 3, none⟩ = some (.int .i64 acl) ∧ V.cell? ⟨g1, 4, none⟩ = some (.int .i64 aot) ∧ V.cell? ⟨g1, 5, none⟩ = some (.int .i64 aep) ∧ V.cell? ⟨g1, 6, none⟩ = some (.int .i64 afm) ∧ V.cell? ⟨g1, 7, none⟩ = some (.int .i64 aun) ∧ V.cell? ⟨g1, 8, none⟩ = some (.int .i64 an)) ∧ (V.cell? ⟨g3, 0, none⟩ = some (.int .i64 ekd) ∧ V.cell? ⟨g3, 1, none⟩ = some (.int .i64 eet) ∧ V.cell? ⟨g3, 2, none⟩ = some (.int .i64 etn) ∧ V.cell? ⟨g3, 3, none⟩ = some (.int .i64 ecl) ∧ V.cell? ⟨g3, 4, none⟩ = some (.int .i64 eot) ∧ V.cell? ⟨g3, 5, none⟩ = some (.int .i64 eep) ∧ V.cell? ⟨g3, 6, none⟩ = some (.int .i64 efm) ∧ V.cell? ⟨g3, 7, none⟩ = some (.int .i64 eun) ∧ V.cell? ⟨g3, 8, none⟩ = some (.int .i64 en))) ∧ (V.cell? ⟨gu, 0, none⟩ = some (.int .i64 ukd) ∧ V.cell? ⟨gu, 1, none⟩ = some (.int .i64 uet) ∧ V.cell? ⟨gu, 2, none⟩ = some (.int .i64 utn) ∧ V.cell? ⟨gu, 3, none⟩ = some (.int .i64 ucl) ∧ V.cell? ⟨gu, 4, none⟩ = some (.int .i64 uot) ∧ V.cell? ⟨gu, 5, none⟩ = some (.int .i64 uep) ∧ V.cell? ⟨gu, 6, none⟩ = some (.int .i64 ufm) ∧ V.cell? ⟨gu, 7, none⟩ = some (.int .i64 uun) ∧ V.cell? ⟨gu, 8, none⟩ = some (.int .i64 un)) := fun V hV => HS8.out V ((fe.transNo ff).transNo hV)
  clear HS8 RR fe ff
  have HS9 := Lib.hid hs9
  clear hs9
  rcases pe with _ | _ <;> rcases pa with _ | _
  all_goals
    have t6 := HT6.out
    have t8 := HT8.out
    clear HT6 HT8
    first | rw [if_pos rfl] at t6 | rw [if_neg (by decide)] at t6
    first | rw [if_pos rfl] at t8 | rw [if_neg (by decide)] at t8
    cases t6
    cases t8
    obtain ⟨⟨⟨r0, r1, r2, r3, r4, r5, r6, r7, r8⟩, ⟨e0, e1, e2, e3, e4, e5, e6, e7, e8⟩⟩, ⟨u0, u1, u2, u3, u4, u5, u6, u7, u8⟩⟩ := HS9.out _ (Fr.refl No _)
    go_wp2_with fail
    refine (awake6_any _ (HT.out.frNo hF.out)).mono ?_
    rintro r v1 ⟨rfl, g1_⟩
    have G1 := Lib.hid g1_
    clear g1_ r0 r1 r2 r3 r4 r5 r6 r7 r8 e0 e1 e2 e3 e4 e5 e6 e7 e8 u0 u1 u2 u3 u4 u5 u6 u7 u8
    obtain ⟨⟨⟨r0, r1, r2, r3, r4, r5, r6, r7, r8⟩, ⟨e0, e1, e2, e3, e4, e5, e6, e7, e8⟩⟩, ⟨u0, u1, u2, u3, u4, u5, u6, u7, u8⟩⟩ := HS9.out _ G1.out
    go_wp2_with fail
    refine (HSE.out _).mono ?_
    rintro r v2 ⟨rfl, g2_⟩
    replace G1 := Lib.hid (G1.out.transNo g2_)
    clear g2_ r0 r1 r2 r3 r4 r5 r6 r7 r8 e0 e1 e2 e3 e4 e5 e6 e7 e8 u0 u1 u2 u3 u4 u5 u6 u7 u8
    obtain ⟨⟨⟨r0, r1, r2, r3, r4, r5, r6, r7, r8⟩, ⟨e0, e1, e2, e3, e4, e5, e6, e7, e8⟩⟩, ⟨u0, u1, u2, u3, u4, u5, u6, u7, u8⟩⟩ := HS9.out _ G1.out
    go_wp2_with fail
    refine (HSA.out _).mono ?_
    rintro r v3 ⟨rfl, g3_⟩
    replace G1 := Lib.hid (G1.out.transNo g3_)
    clear g3_ r0 r1 r2 r3 r4 r5 r6 r7 r8 e0 e1 e2 e3 e4 e5 e6 e7 e8 u0 u1 u2 u3 u4 u5 u6 u7 u8
    go_wp2_with fail
    go_ret
    exact ⟨ret_bool rfl, (hF.out.transNo G1.out).belowNo⟩
end Go.Proofs.YtanhbebikcoliaaDoor
