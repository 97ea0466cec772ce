/-
  The walk of EntryBytes.
-/
import Derived.Test.YtanhbebikcoliaaDoorEl
import Derived.Test.YtanhbebikcoliaaDoorG4
import Derived.Test.YtanhbebikcoliaaDoorG3
import Derived.Test.YtanhbebikcoliaaDoorG14
import Derived.Test.YtanhbebikcoliaaDoorG2
import Derived.Test.YtanhbebikcoliaaDoorApp
namespace Go.Proofs.YtanhbebikcoliaaDoor
open Go.ChangeShapes Go.WideShapes Go.ChangeAt Go.RowKit
set_option linter.unusedVariables false
theorem ent_neq' (e : En) (W : World) : (binOp .neq TEnt e.v e.v).run Tryd.prog W = .ok (.bool false) W := by
  have h := ent_equal e e 9998 W
  unfold En.v at *
  simp only [binOp]
  simp [Op.equal, Op.maxDepth, h]
/-- The three byte strings that are read. -/
def X3 (w : World) (A0 : Option Addr) (n0 c0 : Nat) (l1 l2 : List UInt8) (x : Value) (w' : World) : Prop := ∃ (g : Nat) (A1 A2 : Option Addr) (n1 n2 c1 c2 : Nat), x = .slice (some ⟨g, 0, none⟩) 3 3 ∧ Blk w' g 40 #[.slice A0 n0 c0, .slice A1 n1 c1, .slice A2 n2 c2] ∧ l1.length = n1 ∧ l2.length = n2 ∧ (A1 = none → n1 = 0) ∧ (A2 = none → n2 = 0) ∧ n1 ≤ c1 ∧ n2 ≤ c2 ∧ Rd w' w'.heap.size A1 (l1.map bv) ∧ Rd w' w'.heap.size A2 (l2.map bv) ∧ Fr No w w'
theorem Rd.le {w : World} {A : Option Addr} {xs : List Value} {B B' : Nat} (h : Rd w B A xs) (hB : B ≤ B') : Rd w B' A xs := by
  rcases h with h | ⟨b, o, h1, h2, h3⟩
  · exact .inl h
  · exact .inr ⟨b, o, h1, by omega, h3⟩
set_option maxRecDepth 100000 in
set_option maxHeartbeats 8000000 in
theorem EntryBytes_walk (A : Option Addr) (n cp : Nat) (z0 : List Int) (v1 : Value) (a2 : Option Addr) (len2 cap2 : Nat) (z2 : List Int) (w : World) (w0 : IsRow .i64 w A n cp z0) (w1 : In_ent w v1) (w2 : IsRow .u8 w a2 len2 cap2 z2) (_s0 : cp * 8 ≤ 140737488351232) (_s2 : cap2 * 1 ≤ 140737488351232) (hT : TabN w) :
    Calls Tryd.prog 6 #[.slice A n cp, v1, .slice a2 len2 cap2] w fun e w' => e = .returned (.bool true) ∧ Below w.heap.size w w' := by
  have hl := w0.lsIn
  obtain ⟨lb, hlb, hlm, hlc, hln, hlr⟩ := w2.open_
  clear w0 w2 _s0 _s2 z0 z2
  obtain ⟨a, oa, rfl⟩ := w1
  have hBa := fun V => bytes_any a V oa
  have hRa := fun V => rbytes_any a V oa
  have hla := enB_len a oa
  revert hBa hRa hla
  generalize enB a = la
  intro hBa hRa hla
  clear oa
  obtain ⟨i0, hi0, hz0, hz1, hz2⟩ := info_parts bytes_info
  obtain ⟨akd, aet, atn, acl, aot, aep, afm, aun, an⟩ := a
  unfold En.v at *
  have HLB := Lib.hid hlb
  have HLN := Lib.hid hln
  have HLR := Lib.hid hlr
  clear hlb hln hlr
  go_enter Tryd.func6, Tryd.ntmps6
  go_wp2_with fail
  refine (light_any A n cp _).mono ?_
  rintro e w1 ⟨rfl, rfl⟩
  by_cases hn : (n : Int) ≤ 200
  case neg =>
    rw [decide_eq_false hn]
    go_wp2_with fail
    refine (awake6_any _ (hT.frNo ((Fr.refl No w).alloc _))).mono ?_
    rintro e w5 ⟨rfl, f5⟩
    go_wp2_with fail
    go_ret
    exact ⟨ret_bool rfl, (((Fr.refl No w).alloc _).transNo f5).belowNo⟩
  rw [decide_eq_true hn]
  by_cases h300 : 300 < len2
  · have hd3 : decide ((300 : Int) < (len2 : Int)) = true := decide_eq_true (by omega)
    go_wp2_with fail
    refine (awake6_any _ (hT.frNo ((Fr.refl No w).alloc _))).mono ?_
    rintro e w5 ⟨rfl, f5⟩
    go_wp2_with fail
    go_ret
    exact ⟨ret_bool rfl, (((Fr.refl No w).alloc _).transNo f5).belowNo⟩
  have hd3 : decide ((300 : Int) < (len2 : Int)) = false := decide_eq_false (by omega)
  have hn' : n ≤ 200 := by omega
  obtain ⟨w1, hw1⟩ : ∃ w1, w1 = w.alloc (.cells #[.int .i64 akd, .int .i64 aet, .int .i64 atn, .int .i64 acl, .int .i64 aot, .int .i64 aep, .int .i64 afm, .int .i64 aun, .int .i64 an] TEnt) := ⟨_, rfl⟩
  obtain ⟨g1, hg1⟩ : ∃ g1, g1 = w.heap.size := ⟨_, rfl⟩
  have f1 : Fr No w w1 := by rw [hw1]; exact fr_alloc _ _
  have hb1 : Blk w1 g1 TEnt #[.int .i64 akd, .int .i64 aet, .int .i64 atn, .int .i64 acl, .int .i64 aot, .int .i64 aep, .int .i64 afm, .int .i64 aun, .int .i64 an] := by rw [hw1, hg1]; exact Blk.new _ _ _
  rw [← hw1, ← hg1]
  have hmd := made_any (cp := cp) (hl.fr f1) hn'
  clear hw1 hg1
  have HBA := Lib.hid hBa
  have HRA := Lib.hid hRa
  have HMD := Lib.hid hmd
  have HT := Lib.hid hT
  clear hBa hRa hmd hT
  go_wp2_with fail
  refine HMD.out.mono ?_
  rintro r w2 ⟨c, en, rfl, hc, oe, f2⟩
  have oe' : en.ok := oe.ok
  have hBe := fun V => bytes_any en V oe'
  have hRe := fun V => rbytes_any en V oe'
  have hle := enB_len en oe'
  revert hBe hRe hle
  generalize enB en = le
  intro hBe hRe hle
  clear hc oe oe'
  obtain ⟨rg, nz, nc, nt, nv, lz_, bk, bz, bc, bvz, cz, cc, ct, cv, At, Ar, nr, cr, Ao, no_, co, bl⟩ := c
  obtain ⟨ekd, eet, etn, ecl, eot, eep, efm, eun, en⟩ := en
  unfold En.v at *
  have HBE := Lib.hid hBe
  have HRE := Lib.hid hRe
  clear hBe hRe
  go_upto_region 4 with fail
  obtain ⟨w3, hw3⟩ : ∃ w3, w3 = (w2.alloc (.cells #[.int .i64 (rg : Int), .slice (some ⟨bz, 0, none⟩) nz cz, .slice (some ⟨bc, 0, none⟩) nc cc, .slice At nt ct, .slice (some ⟨bvz, 0, none⟩) nv cv, .slice Ar nr cr, .slice Ao no_ co, .int .i64 bl, .int .i64 (lz_ : Int), .int .i64 (bk : Int)] TCf)).alloc (.cells #[.int .i64 ekd, .int .i64 eet, .int .i64 etn, .int .i64 ecl, .int .i64 eot, .int .i64 eep, .int .i64 efm, .int .i64 eun, .int .i64 en] TEnt) := ⟨_, rfl⟩
  obtain ⟨g3, hg3⟩ : ∃ g3, g3 = w2.heap.size + 1 := ⟨_, rfl⟩
  obtain ⟨g2, hg2⟩ : ∃ g2, g2 = w2.heap.size := ⟨_, rfl⟩
  have f3 : Fr No w2 w3 := by rw [hw3]; exact ((Fr.refl No w2).alloc _).alloc _
  have hb3 : Blk w3 g3 TEnt #[.int .i64 ekd, .int .i64 eet, .int .i64 etn, .int .i64 ecl, .int .i64 eot, .int .i64 eep, .int .i64 efm, .int .i64 eun, .int .i64 en] := by rw [hw3, hg3]; exact Blk.new' _ _ _ _ (by simp)
  rw [← hw3, ← hg3, ← hg2]
  clear hw3 hg3 hg2
  have f23 := f2.transNo f3
  have k1 := hb1.fr f23 (fun h => h)
  have f03 := f1.transNo f23
  have k3 := hb3
  have hS_ : ∀ V, Fr No w3 V → (V.cell? ⟨g1, 0, none⟩ = some (.int .i64 akd) ∧ V.cell? ⟨g1, 1, none⟩ = some (.int .i64 aet) ∧ V.cell? ⟨g1, 2, none⟩ = some (.int .i64 atn) ∧ V.cell? ⟨g1, 3, none⟩ = some (.int .i64 acl) ∧ V.cell? ⟨g1, 4, none⟩ = some (.int .i64 aot) ∧ V.cell? ⟨g1, 5, none⟩ = some (.int .i64 aep) ∧ V.cell? ⟨g1, 6, none⟩ = some (.int .i64 afm) ∧ V.cell? ⟨g1, 7, none⟩ = some (.int .i64 aun) ∧ V.cell? ⟨g1, 8, none⟩ = some (.int .i64 an)) ∧ (V.cell? ⟨g3, 0, none⟩ = some (.int .i64 ekd) ∧ V.cell? ⟨g3, 1, none⟩ = some (.int .i64 eet) ∧ V.cell? ⟨g3, 2, none⟩ = some (.int .i64 etn) ∧ V.cell? ⟨g3, 3, none⟩ = some (.int .i64 ecl) ∧ V.cell? ⟨g3, 4, none⟩ = some (.int .i64 eot) ∧ V.cell? ⟨g3, 5, none⟩ = some (.int .i64 eep) ∧ V.cell? ⟨g3, 6, none⟩ = some (.int .i64 efm) ∧ V.cell? ⟨g3, 7, none⟩ = some (.int .i64 eun) ∧ V.cell? ⟨g3, 8, none⟩ = some (.int .i64 en)) := fun V hV => ⟨⟨(k1.fr hV (fun h => h)).cell 0, (k1.fr hV (fun h => h)).cell 1, (k1.fr hV (fun h => h)).cell 2, (k1.fr hV (fun h => h)).cell 3, (k1.fr hV (fun h => h)).cell 4, (k1.fr hV (fun h => h)).cell 5, (k1.fr hV (fun h => h)).cell 6, (k1.fr hV (fun h => h)).cell 7, (k1.fr hV (fun h => h)).cell 8⟩, ⟨(k3.fr hV (fun h => h)).cell 0, (k3.fr hV (fun h => h)).cell 1, (k3.fr hV (fun h => h)).cell 2, (k3.fr hV (fun h => h)).cell 3, (k3.fr hV (fun h => h)).cell 4, (k3.fr hV (fun h => h)).cell 5, (k3.fr hV (fun h => h)).cell 6, (k3.fr hV (fun h => h)).cell 7, (k3.fr hV (fun h => h)).cell 8⟩⟩
  clear k1 k3 hb1 hb3 f1 f2 f3 f23
  have FF := Lib.hid ((Fr.refl No w3).drew)
  have hlr' := HLR.out.frNo f03 (Nat.le_refl _)
  have HS_ := Lib.hid hS_
  have F03 := Lib.hid f03
  have HLR' := Lib.hid hlr'
  clear hS_ f03 hlr'
  go_cut [9] from 31 to 38 (fun x wx => X3 w3 a2 len2 cap2 la (le ++ lb) x wx)
  case first =>
    go_region_held3 (fun V => (V.cell? ⟨g1, 0, none⟩ = some (.int .i64 akd) ∧ V.cell? ⟨g1, 1, none⟩ = some (.int .i64 aet) ∧ V.cell? ⟨g1, 2, none⟩ = some (.int .i64 atn) ∧ V.cell? ⟨g1, 3, none⟩ = some (.int .i64 acl) ∧ V.cell? ⟨g1, 4, none⟩ = some (.int .i64 aot) ∧ V.cell? ⟨g1, 5, none⟩ = some (.int .i64 aep) ∧ V.cell? ⟨g1, 6, none⟩ = some (.int .i64 afm) ∧ V.cell? ⟨g1, 7, none⟩ = some (.int .i64 aun) ∧ V.cell? ⟨g1, 8, none⟩ = some (.int .i64 an)) ∧ (V.cell? ⟨g3, 0, none⟩ = some (.int .i64 ekd) ∧ V.cell? ⟨g3, 1, none⟩ = some (.int .i64 eet) ∧ V.cell? ⟨g3, 2, none⟩ = some (.int .i64 etn) ∧ V.cell? ⟨g3, 3, none⟩ = some (.int .i64 ecl) ∧ V.cell? ⟨g3, 4, none⟩ = some (.int .i64 eot) ∧ V.cell? ⟨g3, 5, none⟩ = some (.int .i64 eep) ∧ V.cell? ⟨g3, 6, none⟩ = some (.int .i64 efm) ∧ V.cell? ⟨g3, 7, none⟩ = some (.int .i64 eun) ∧ V.cell? ⟨g3, 8, none⟩ = some (.int .i64 en))) (first | (with_reducible exact HS_.out _ FF.out) | (with_reducible exact HS_.out _ (FF.out.alloc _))) (first
      | (go_at_call 17; (with_reducible refine (HRA.out _).mono ?_); rintro r v6 ⟨A1, c1, rfl, o1, f6⟩; have r1 := o1.rd; have N1 := Lib.hid o1.len.2; have C1 := o1.cap.1; have R1 := Lib.hid r1; replace FF := Lib.hid (FF.out.transNo f6); have hs6 := FF.out.size; clear o1 r1 f6)
      | (go_at_call 17; (with_reducible refine (HRE.out _).mono ?_); rintro r v7 ⟨A2, c2, rfl, o2, f7⟩; have r1 := R1.out.frNo f7 (Nat.le_refl _); replace R1 := Lib.hid r1; have O2 := Lib.hid o2; have hs7 := f7.size; replace FF := Lib.hid (FF.out.transNo f7); clear o2 r1 f7)
      | (refine step_append_rd _ (by rfl) (.tmp 35) (.tmp 36) _ (by rfl) 0 5 i0 _ 1 Tryd.underlying40 hi0 hz0 hz1 hz2 rfl (.slice A2 le.length c2) le.length (le.map bv) (by rfl) (by exact O2.out.own (by rw [List.length_map])) w.heap.size a2 len2 cap2 (lb.map bv) (by rfl) HLN.out (HLR'.out.frNo FF.out (F03.out.size)) (by rw [List.length_map, HLB.out]) (bv_one _) (by unfold maxLen; omega) (by omega) (Nat.zero_le _) ?_; intro v1 v8 happ; obtain ⟨o5, f5⟩ := O2.out.appendedNew hs7 (by rw [List.length_map]) (by rw [List.length_map, HLB.out]) happ; rw [← List.map_append] at o5; have r1 := R1.out.fr f5 hs7 (fun i hi => hi); replace R1 := Lib.hid r1; have hs8 : v6.heap.size ≤ v8.heap.size := Nat.le_trans hs7 f5.size; have F5 := FF.out.transNew f5 (fun i hi => by have hi : v6.heap.size ≤ i := hi; omega); obtain ⟨A5, c5, rfl, n5⟩ := o5.form; rw [List.length_map] at o5 ⊢; have O5 := Lib.hid o5; replace FF := Lib.hid F5; clear happ o5 f5 n5 r1))
    all_goals go_wp2_with fail
    all_goals go_meet
    all_goals
      have hlb' := HLB.out
      have F6 := FF.out.alloc (.cells #[.slice a2 len2 cap2, .slice A1 la.length c1, .slice A5 (le.length + lb.length) c5] 40)
      exact ⟨_, A1, A5, la.length, le.length + lb.length, c1, c5, rfl, Blk.new _ _ _, rfl, List.length_append, N1.out, (by have := O5.out.len.2; rwa [List.length_append] at this), C1, (by have := O5.out.cap.1; rwa [List.length_append] at this), (R1.out.frNo ((Fr.refl No v8).alloc _) hs8).le (Nat.le_trans hs8 ((Fr.refl No v8).alloc _).size), (O5.out.frNo ((Fr.refl No v8).alloc _)).rd, F6⟩
  obtain ⟨gx, A1, A2, n1, n2, c1, c2, rfl, hbx, hl1, hl2, hN1, hN2, hc1, hc2, hr1, hr2, hfw⟩ := hcut
  clear FF
  rw [List.length_append] at hl2
  have f0c := F03.out.transNo hfw
  have hlb' := HLB.out
  have hd0 := fun V (hV : Fr No wc V) => read_any a2 len2 cap2 lb V w.heap.size HLN.out HLB.out (by unfold maxLen; omega) hlc (HLR.out.frNo (f0c.transNo hV) (Nat.le_refl _)) (f0c.transNo hV).size
  have hq0 := fun V (hV : Fr No wc V) => rread_any a2 len2 cap2 lb V w.heap.size HLN.out HLB.out (by unfold maxLen; omega) hlc (HLR.out.frNo (f0c.transNo hV) (Nat.le_refl _)) (f0c.transNo hV).size
  have hd1 := fun V (hV : Fr No wc V) => read_any A1 n1 c1 la V wc.heap.size hN1 hl1 (by unfold maxLen; omega) hc1 (hr1.frNo hV (Nat.le_refl _)) hV.size
  have hq1 := fun V (hV : Fr No wc V) => rread_any A1 n1 c1 la V wc.heap.size hN1 hl1 (by unfold maxLen; omega) hc1 (hr1.frNo hV (Nat.le_refl _)) hV.size
  have hd2 := fun V (hV : Fr No wc V) => read_any A2 n2 c2 (le ++ lb) V wc.heap.size hN2 (by rw [List.length_append]; exact hl2) (by unfold maxLen; omega) hc2 (hr2.frNo hV (Nat.le_refl _)) hV.size
  have hq2 := fun V (hV : Fr No wc V) => rread_any A2 n2 c2 (le ++ lb) V wc.heap.size hN2 (by rw [List.length_append]; exact hl2) (by unfold maxLen; omega) hc2 (hr2.frNo hV (Nat.le_refl _)) hV.size
  revert hd0 hq0 hd1 hq1 hd2 hq2
  generalize readE lb = t0
  generalize readE la = t1
  generalize readE (le ++ lb) = t2
  intro hd0 hq0 hd1 hq1 hd2 hq2
  obtain ⟨⟨tkd, tet, ttn, tcl, tot, tep, tfm, tun, tn⟩, k0_, x0_⟩ := t0
  have hn0_ := fun W => ent_neq' ⟨tkd, tet, ttn, tcl, tot, tep, tfm, tun, tn⟩ W
  have hg0_ := fun (x y : Operand) (W : World) => ent_guard .neq x y #[.int .i64 tkd, .int .i64 tet, .int .i64 ttn, .int .i64 tcl, .int .i64 tot, .int .i64 tep, .int .i64 tfm, .int .i64 tun, .int .i64 tn] #[.int .i64 tkd, .int .i64 tet, .int .i64 ttn, .int .i64 tcl, .int .i64 tot, .int .i64 tep, .int .i64 tfm, .int .i64 tun, .int .i64 tn] W
  obtain ⟨⟨ukd, uet, utn, ucl, uot, uep, ufm, uun, un⟩, k1_, x1_⟩ := t1
  have hn1_ := fun W => ent_neq' ⟨ukd, uet, utn, ucl, uot, uep, ufm, uun, un⟩ W
  have hg1_ := fun (x y : Operand) (W : World) => ent_guard .neq x y #[.int .i64 ukd, .int .i64 uet, .int .i64 utn, .int .i64 ucl, .int .i64 uot, .int .i64 uep, .int .i64 ufm, .int .i64 uun, .int .i64 un] #[.int .i64 ukd, .int .i64 uet, .int .i64 utn, .int .i64 ucl, .int .i64 uot, .int .i64 uep, .int .i64 ufm, .int .i64 uun, .int .i64 un] W
  obtain ⟨⟨vkd, vet, vtn, vcl, vot, vep, vfm, vun, vn⟩, k2_, x2_⟩ := t2
  have hn2_ := fun W => ent_neq' ⟨vkd, vet, vtn, vcl, vot, vep, vfm, vun, vn⟩ W
  have hg2_ := fun (x y : Operand) (W : World) => ent_guard .neq x y #[.int .i64 vkd, .int .i64 vet, .int .i64 vtn, .int .i64 vcl, .int .i64 vot, .int .i64 vep, .int .i64 vfm, .int .i64 vun, .int .i64 vn] #[.int .i64 vkd, .int .i64 vet, .int .i64 vtn, .int .i64 vcl, .int .i64 vot, .int .i64 vep, .int .i64 vfm, .int .i64 vun, .int .i64 vn] W
  unfold RdTo at *
  unfold En.v at *
  have hx_ : ∀ V, Fr No wc V → V.cell? ⟨gx, 0, none⟩ = some (.slice a2 len2 cap2) ∧ V.cell? ⟨gx, 1, none⟩ = some (.slice A1 n1 c1) ∧ V.cell? ⟨gx, 2, none⟩ = some (.slice A2 n2 c2) := fun V hV => ⟨(hbx.fr hV (fun h => h)).cell 0, (hbx.fr hV (fun h => h)).cell 1, (hbx.fr hV (fun h => h)).cell 2⟩
  have hs_ : ∀ V, Fr No wc V → (V.cell? ⟨g1, 0, none⟩ = some (.int .i64 akd) ∧ V.cell? ⟨g1, 1, none⟩ = some (.int .i64 aet) ∧ V.cell? ⟨g1, 2, none⟩ = some (.int .i64 atn) ∧ V.cell? ⟨g1, 3, none⟩ = some (.int .i64 acl) ∧ V.cell? ⟨g1, 4, none⟩ = some (.int .i64 aot) ∧ V.cell? ⟨g1, 5, none⟩ = some (.int .i64 aep) ∧ V.cell? ⟨g1, 6, none⟩ = some (.int .i64 afm) ∧ V.cell? ⟨g1, 7, none⟩ = some (.int .i64 aun) ∧ V.cell? ⟨g1, 8, none⟩ = some (.int .i64 an)) ∧ (V.cell? ⟨g3, 0, none⟩ = some (.int .i64 ekd) ∧ V.cell? ⟨g3, 1, none⟩ = some (.int .i64 eet) ∧ V.cell? ⟨g3, 2, none⟩ = some (.int .i64 etn) ∧ V.cell? ⟨g3, 3, none⟩ = some (.int .i64 ecl) ∧ V.cell? ⟨g3, 4, none⟩ = some (.int .i64 eot) ∧ V.cell? ⟨g3, 5, none⟩ = some (.int .i64 eep) ∧ V.cell? ⟨g3, 6, none⟩ = some (.int .i64 efm) ∧ V.cell? ⟨g3, 7, none⟩ = some (.int .i64 eun) ∧ V.cell? ⟨g3, 8, none⟩ = some (.int .i64 en)) := fun V hV => HS_.out V (hfw.transNo hV)
  clear hbx hl1 hl2 hN1 hN2 hc1 hc2 hr1 hr2 hfw hlb' HLR HLN HLB HS_ F03 HLR' hlc hlm hle hla hd3
  have HD0 := Lib.hid hd0
  have HQ0 := Lib.hid hq0
  have HD1 := Lib.hid hd1
  have HQ1 := Lib.hid hq1
  have HD2 := Lib.hid hd2
  have HQ2 := Lib.hid hq2
  have HX_ := Lib.hid hx_
  have HS_ := Lib.hid hs_
  have F0C := Lib.hid f0c
  have HZ0 := Lib.hid hz0
  have HZ1 := Lib.hid hz1
  have HZ2 := Lib.hid hz2
  have HI0 := Lib.hid hi0
  have HN' := Lib.hid hn'
  have HN := Lib.hid hn
  have H300 := Lib.hid h300
  clear hd0 hq0 hd1 hq1 hd2 hq2 hx_ hs_ f0c hz0 hz1 hz2 hi0 hn' hn h300
  go_wp2_with fail
  go_loopw [10] (fun i wr => ∃ k : Nat, k ≤ 3 ∧ i = .int .i64 k ∧ Fr No wc wr) (fun i _ => 3 - (intOf i).toNat)
  case atStart => exact ⟨0, Nat.zero_le _, rfl, Fr.refl _ _⟩
  case round =>
    obtain ⟨k, hk, rfl, hf⟩ := hrel
    have hcase : k = 0 ∨ k = 1 ∨ k = 2 ∨ k = 3 := by omega
    clear hk
    have hF := Lib.hid hf
    rcases hcase with rfl | rfl | rfl | rfl
    · obtain ⟨x0, x1, x2⟩ := HX_.out _ hf
      clear hf
      go_wp2_with fail
      refine (HD0.out _ hF.out).mono ?_
      rintro r v1 ⟨rfl, f1⟩
      replace hF := Lib.hid (hF.out.transNo f1)
      clear f1 x0 x1 x2
      obtain ⟨x0, x1, x2⟩ := HX_.out _ hF.out
      go_upto_region 9 with fail
      obtain ⟨w7, hw7⟩ : ∃ w7, w7 = v1.alloc (.cells #[.int .i64 tkd, .int .i64 tet, .int .i64 ttn, .int .i64 tcl, .int .i64 tot, .int .i64 tep, .int .i64 tfm, .int .i64 tun, .int .i64 tn] TEnt) := ⟨_, rfl⟩
      obtain ⟨gu, hgu⟩ : ∃ g, g = v1.heap.size := ⟨_, rfl⟩
      have f7 : Fr No v1 w7 := by rw [hw7]; exact fr_alloc _ _
      have bu : Blk w7 gu TEnt #[.int .i64 tkd, .int .i64 tet, .int .i64 ttn, .int .i64 tcl, .int .i64 tot, .int .i64 tep, .int .i64 tfm, .int .i64 tun, .int .i64 tn] := by rw [hw7, hgu]; exact Blk.new _ _ _
      rw [← hw7, ← hgu]
      clear hw7 hgu x0 x1 x2
      replace hF := Lib.hid (hF.out.transNo f7)
      clear f7
      obtain ⟨x0, x1, x2⟩ := HX_.out _ hF.out
      have BU := Lib.hid bu
      clear bu
      go_wp2_with fail
      refine (HQ0.out _ hF.out).mono ?_
      rintro r v2 ⟨rfl, f2⟩
      go_upto_region 10 with fail
      obtain ⟨w9, hw9⟩ : ∃ w9, w9 = v2.alloc (.cells #[.int .i64 tkd, .int .i64 tet, .int .i64 ttn, .int .i64 tcl, .int .i64 tot, .int .i64 tep, .int .i64 tfm, .int .i64 tun, .int .i64 tn] TEnt) := ⟨_, rfl⟩
      obtain ⟨gv, hgv⟩ : ∃ g, g = v2.heap.size := ⟨_, rfl⟩
      have f9 : Fr No v2 w9 := by rw [hw9]; exact fr_alloc _ _
      have bw : Blk w9 gv TEnt #[.int .i64 tkd, .int .i64 tet, .int .i64 ttn, .int .i64 tcl, .int .i64 tot, .int .i64 tep, .int .i64 tfm, .int .i64 tun, .int .i64 tn] := by rw [hw9, hgv]; exact Blk.new _ _ _
      rw [← hw9, ← hgv]
      clear hw9 hgv
      have bu := BU.out.fr (f2.transNo f9) (fun h => h)
      obtain ⟨u0, u1, u2, u3, u4, u5, u6, u7, u8⟩ := ent_cells bu
      obtain ⟨m0, m1, m2, m3, m4, m5, m6, m7, m8⟩ := ent_cells bw
      replace hF := Lib.hid (hF.out.transNo (f2.transNo f9))
      clear f2 f9 bu bw x0 x1 x2
      go_wp2_with fail
      go_roundw
      case rel => exact ⟨1, by omega, rfl, hF.out⟩
      case measure => simp [intOf]
    · obtain ⟨x0, x1, x2⟩ := HX_.out _ hf
      clear hf
      go_wp2_with fail
      refine (HD1.out _ hF.out).mono ?_
      rintro r v1 ⟨rfl, f1⟩
      replace hF := Lib.hid (hF.out.transNo f1)
      clear f1 x0 x1 x2
      obtain ⟨x0, x1, x2⟩ := HX_.out _ hF.out
      go_upto_region 9 with fail
      obtain ⟨w7, hw7⟩ : ∃ w7, w7 = v1.alloc (.cells #[.int .i64 ukd, .int .i64 uet, .int .i64 utn, .int .i64 ucl, .int .i64 uot, .int .i64 uep, .int .i64 ufm, .int .i64 uun, .int .i64 un] TEnt) := ⟨_, rfl⟩
      obtain ⟨gu, hgu⟩ : ∃ g, g = v1.heap.size := ⟨_, rfl⟩
      have f7 : Fr No v1 w7 := by rw [hw7]; exact fr_alloc _ _
      have bu : Blk w7 gu TEnt #[.int .i64 ukd, .int .i64 uet, .int .i64 utn, .int .i64 ucl, .int .i64 uot, .int .i64 uep, .int .i64 ufm, .int .i64 uun, .int .i64 un] := by rw [hw7, hgu]; exact Blk.new _ _ _
      rw [← hw7, ← hgu]
      clear hw7 hgu x0 x1 x2
      replace hF := Lib.hid (hF.out.transNo f7)
      clear f7
      obtain ⟨x0, x1, x2⟩ := HX_.out _ hF.out
      have BU := Lib.hid bu
      clear bu
      go_wp2_with fail
      refine (HQ1.out _ hF.out).mono ?_
      rintro r v2 ⟨rfl, f2⟩
      go_upto_region 10 with fail
      obtain ⟨w9, hw9⟩ : ∃ w9, w9 = v2.alloc (.cells #[.int .i64 ukd, .int .i64 uet, .int .i64 utn, .int .i64 ucl, .int .i64 uot, .int .i64 uep, .int .i64 ufm, .int .i64 uun, .int .i64 un] TEnt) := ⟨_, rfl⟩
      obtain ⟨gv, hgv⟩ : ∃ g, g = v2.heap.size := ⟨_, rfl⟩
      have f9 : Fr No v2 w9 := by rw [hw9]; exact fr_alloc _ _
      have bw : Blk w9 gv TEnt #[.int .i64 ukd, .int .i64 uet, .int .i64 utn, .int .i64 ucl, .int .i64 uot, .int .i64 uep, .int .i64 ufm, .int .i64 uun, .int .i64 un] := by rw [hw9, hgv]; exact Blk.new _ _ _
      rw [← hw9, ← hgv]
      clear hw9 hgv
      have bu := BU.out.fr (f2.transNo f9) (fun h => h)
      obtain ⟨u0, u1, u2, u3, u4, u5, u6, u7, u8⟩ := ent_cells bu
      obtain ⟨m0, m1, m2, m3, m4, m5, m6, m7, m8⟩ := ent_cells bw
      replace hF := Lib.hid (hF.out.transNo (f2.transNo f9))
      clear f2 f9 bu bw x0 x1 x2
      go_wp2_with fail
      go_roundw
      case rel => exact ⟨2, by omega, rfl, hF.out⟩
      case measure => simp [intOf]
    · obtain ⟨x0, x1, x2⟩ := HX_.out _ hf
      clear hf
      go_wp2_with fail
      refine (HD2.out _ hF.out).mono ?_
      rintro r v1 ⟨rfl, f1⟩
      replace hF := Lib.hid (hF.out.transNo f1)
      clear f1 x0 x1 x2
      obtain ⟨x0, x1, x2⟩ := HX_.out _ hF.out
      go_upto_region 9 with fail
      obtain ⟨w7, hw7⟩ : ∃ w7, w7 = v1.alloc (.cells #[.int .i64 vkd, .int .i64 vet, .int .i64 vtn, .int .i64 vcl, .int .i64 vot, .int .i64 vep, .int .i64 vfm, .int .i64 vun, .int .i64 vn] TEnt) := ⟨_, rfl⟩
      obtain ⟨gu, hgu⟩ : ∃ g, g = v1.heap.size := ⟨_, rfl⟩
      have f7 : Fr No v1 w7 := by rw [hw7]; exact fr_alloc _ _
      have bu : Blk w7 gu TEnt #[.int .i64 vkd, .int .i64 vet, .int .i64 vtn, .int .i64 vcl, .int .i64 vot, .int .i64 vep, .int .i64 vfm, .int .i64 vun, .int .i64 vn] := by rw [hw7, hgu]; exact Blk.new _ _ _
      rw [← hw7, ← hgu]
      clear hw7 hgu x0 x1 x2
      replace hF := Lib.hid (hF.out.transNo f7)
      clear f7
      obtain ⟨x0, x1, x2⟩ := HX_.out _ hF.out
      have BU := Lib.hid bu
      clear bu
      go_wp2_with fail
      refine (HQ2.out _ hF.out).mono ?_
      rintro r v2 ⟨rfl, f2⟩
      go_upto_region 10 with fail
      obtain ⟨w9, hw9⟩ : ∃ w9, w9 = v2.alloc (.cells #[.int .i64 vkd, .int .i64 vet, .int .i64 vtn, .int .i64 vcl, .int .i64 vot, .int .i64 vep, .int .i64 vfm, .int .i64 vun, .int .i64 vn] TEnt) := ⟨_, rfl⟩
      obtain ⟨gv, hgv⟩ : ∃ g, g = v2.heap.size := ⟨_, rfl⟩
      have f9 : Fr No v2 w9 := by rw [hw9]; exact fr_alloc _ _
      have bw : Blk w9 gv TEnt #[.int .i64 vkd, .int .i64 vet, .int .i64 vtn, .int .i64 vcl, .int .i64 vot, .int .i64 vep, .int .i64 vfm, .int .i64 vun, .int .i64 vn] := by rw [hw9, hgv]; exact Blk.new _ _ _
      rw [← hw9, ← hgv]
      clear hw9 hgv
      have bu := BU.out.fr (f2.transNo f9) (fun h => h)
      obtain ⟨u0, u1, u2, u3, u4, u5, u6, u7, u8⟩ := ent_cells bu
      obtain ⟨m0, m1, m2, m3, m4, m5, m6, m7, m8⟩ := ent_cells bw
      replace hF := Lib.hid (hF.out.transNo (f2.transNo f9))
      clear f2 f9 bu bw x0 x1 x2
      go_wp2_with fail
      go_roundw
      case rel => exact ⟨3, by omega, rfl, hF.out⟩
      case measure => simp [intOf]
    · clear hf
      go_upto_region 12 with fail
      have FF := Lib.hid (hF.out.drew)
      have HT2 := Lib.hid (HT.out.frNo (F0C.out.transNo FF.out))
      clear hF
      go_region_held3 (fun V => (V.cell? ⟨g1, 0, none⟩ = some (.int .i64 akd) ∧ V.cell? ⟨g1, 1, none⟩ = some (.int .i64 aet) ∧ V.cell? ⟨g1, 2, none⟩ = some (.int .i64 atn) ∧ V.cell? ⟨g1, 3, none⟩ = some (.int .i64 acl) ∧ V.cell? ⟨g1, 4, none⟩ = some (.int .i64 aot) ∧ V.cell? ⟨g1, 5, none⟩ = some (.int .i64 aep) ∧ V.cell? ⟨g1, 6, none⟩ = some (.int .i64 afm) ∧ V.cell? ⟨g1, 7, none⟩ = some (.int .i64 aun) ∧ V.cell? ⟨g1, 8, none⟩ = some (.int .i64 an)) ∧ (V.cell? ⟨g3, 0, none⟩ = some (.int .i64 ekd) ∧ V.cell? ⟨g3, 1, none⟩ = some (.int .i64 eet) ∧ V.cell? ⟨g3, 2, none⟩ = some (.int .i64 etn) ∧ V.cell? ⟨g3, 3, none⟩ = some (.int .i64 ecl) ∧ V.cell? ⟨g3, 4, none⟩ = some (.int .i64 eot) ∧ V.cell? ⟨g3, 5, none⟩ = some (.int .i64 eep) ∧ V.cell? ⟨g3, 6, none⟩ = some (.int .i64 efm) ∧ V.cell? ⟨g3, 7, none⟩ = some (.int .i64 eun) ∧ V.cell? ⟨g3, 8, none⟩ = some (.int .i64 en))) (with_reducible exact HS_.out _ FF.out) (first
        | (go_at_call 9; refine (awake6_any _ HT2.out).mono ?_; rintro e v5 ⟨rfl, f5⟩; replace FF := Lib.hid (FF.out.transNo f5); clear f5)
        | (go_at_call 21; (first | with_reducible refine (HBA.out _).mono ?_ | with_reducible refine (HBE.out _).mono ?_); rintro r v6 ⟨A5, c5, rfl, o5, f6⟩; have O5 := Lib.hid o5; replace FF := Lib.hid (FF.out.transNo f6); clear o5 f6)
        | (go_at_call 17; (first | with_reducible refine (HRA.out _).mono ?_ | with_reducible refine (HRE.out _).mono ?_); rintro r v7 ⟨A6, c6, rfl, o6, f7⟩; replace O5 := Lib.hid (O5.out.frNo f7); have O6 := Lib.hid o6; replace FF := Lib.hid (FF.out.transNo f7); clear o6 f7)
        | (go_at_call 20; (first | with_reducible refine (same_bytes _ _ _ _ _ _ la la _ _ _ O5.out.len.2 rfl O5.out.rd O6.out.len.2 rfl O6.out.rd).mono ?_ | with_reducible refine (same_bytes _ _ _ _ _ _ le le _ _ _ O5.out.len.2 rfl O5.out.rd O6.out.len.2 rfl O6.out.rd).mono ?_); rintro e w9 ⟨rfl, rfl⟩; rw [beq_self_eq_true]; clear O5 O6))
      all_goals go_wp2_with fail
      all_goals go_ret
      all_goals exact ⟨ret_bool rfl, (F0C.out.transNo FF.out).belowNo⟩
end Go.Proofs.YtanhbebikcoliaaDoor
