/-
  The walk of EntryUnlike.
-/
import Derived.Test.YtlikfhjlomohkaaDoorEntA
import Derived.Test.YtlikfhjlomohkaaDoorEntB
import Derived.Test.YtlikfhjlomohkaaDoorEntE
import Derived.Test.YtlikfhjlomohkaaDoorSame
import Derived.Deep.RegionHeld3
namespace Go.Proofs.YtlikfhjlomohkaaDoor
open Go.ChangeShapes Go.WideShapes Go.ChangeAt Go.RowKit
set_option linter.unusedVariables false

theorem enB_eq (e f : En) (he : e.ok) (hf : f.ok) : (enB e == enB f) = decide (e = f) := by
  rw [Bool.eq_iff_iff]
  simp only [beq_iff_eq, decide_eq_true_eq]
  exact ⟨fun h => En.l_inj (intsF_inj (by rw [En.l_len, En.l_len]) he hf h), fun h => by rw [h]⟩

set_option maxRecDepth 100000 in
set_option maxHeartbeats 8000000 in
theorem EntryUnlike_walk (v0 v1 : Value) (a2 a3 : Int) (w : World) (w0 : In_ent w v0) (w1 : In_ent w v1) (w2 : (Lit.int .i64 a2).wf = true) (w3 : (Lit.int .i64 a3).wf = true) (hT : TabN w) :
    Calls Tryd.prog 8 #[v0, v1, .int .i64 a2, .int .i64 a3] w fun e w' => e = .returned (.bool true) ∧ Below w.heap.size w w' := by
  obtain ⟨a, oa, rfl⟩ := w0
  obtain ⟨b, ob, rfl⟩ := w1
  have hb3 := bounds_i64 w3
  obtain ⟨c, hc⟩ : ∃ c, c = spoilN a (a2 % 9) a3 := ⟨_, rfl⟩
  have oc : c.ok := by rw [hc]; exact spoilN_ok a _ a3 oa hb3
  have hsp := fun V => spoilt_any a a2 a3 V
  rw [← hc] at hsp
  clear hc w2 w3 hb3
  have hq1 := enB_eq a b oa ob
  have hq2 := enB_eq a c oa oc
  have hA := fun V => bytes_any a V oa
  have hB := fun V => bytes_any b V ob
  have hC := fun V => bytes_any c V oc
  have hE1 := fun V => ent_eql a b V
  have hE2 := fun V => ent_eql a c V
  clear oa ob oc
  revert hq1 hq2 hE1 hE2
  generalize decide (a = b) = q1
  generalize decide (a = c) = q2
  intro hq1 hq2 hE1 hE2
  obtain ⟨k, tick, te, ce, ot, ep, fr, un, n⟩ := a
  obtain ⟨k', tick', te', ce', ot', ep', fr', un', n'⟩ := b
  obtain ⟨k2, tick2, te2, ce2, ot2, ep2, fr2, un2, n2⟩ := c
  unfold En.v at *
  have hG1 := fun (x y : Operand) (V : World) => ent_guard .eql x y #[.int .i64 k, .int .i64 tick, .int .i64 te, .int .i64 ce, .int .i64 ot, .int .i64 ep, .int .i64 fr, .int .i64 un, .int .i64 n] #[.int .i64 k', .int .i64 tick', .int .i64 te', .int .i64 ce', .int .i64 ot', .int .i64 ep', .int .i64 fr', .int .i64 un', .int .i64 n'] V
  have hG2 := fun (x y : Operand) (V : World) => ent_guard .eql x y #[.int .i64 k, .int .i64 tick, .int .i64 te, .int .i64 ce, .int .i64 ot, .int .i64 ep, .int .i64 fr, .int .i64 un, .int .i64 n] #[.int .i64 k2, .int .i64 tick2, .int .i64 te2, .int .i64 ce2, .int .i64 ot2, .int .i64 ep2, .int .i64 fr2, .int .i64 un2, .int .i64 n2] V
  have HSP := Lib.hid hsp
  have HA := Lib.hid hA
  have HB := Lib.hid hB
  have HC := Lib.hid hC
  have HQ1 := Lib.hid hq1
  have HQ2 := Lib.hid hq2
  have HT := Lib.hid hT
  clear hsp hA hB hC hq1 hq2 hT
  go_enter Tryd.func8, Tryd.ntmps8
  go_wp2_with fail
  refine (HSP.out _).mono ?_
  rintro e w1 ⟨rfl, f1⟩
  obtain ⟨W1, hW1⟩ : ∃ W1, W1 = (w.alloc (.cells #[.int .i64 k, .int .i64 tick, .int .i64 te, .int .i64 ce, .int .i64 ot, .int .i64 ep, .int .i64 fr, .int .i64 un, .int .i64 n] TEnt)).alloc (.cells #[.int .i64 k', .int .i64 tick', .int .i64 te', .int .i64 ce', .int .i64 ot', .int .i64 ep', .int .i64 fr', .int .i64 un', .int .i64 n'] TEnt) := ⟨_, rfl⟩
  have ba : Blk W1 w.heap.size TEnt #[.int .i64 k, .int .i64 tick, .int .i64 te, .int .i64 ce, .int .i64 ot, .int .i64 ep, .int .i64 fr, .int .i64 un, .int .i64 n] := by rw [hW1]; exact (Blk.new _ _ _).allocA _
  have bb : Blk W1 (w.heap.size + 1) TEnt #[.int .i64 k', .int .i64 tick', .int .i64 te', .int .i64 ce', .int .i64 ot', .int .i64 ep', .int .i64 fr', .int .i64 un', .int .i64 n'] := by rw [hW1]; exact Blk.new' _ _ _ _ (by simp)
  have g1 : Fr No w W1 := by rw [hW1]; exact ((Fr.refl No w).alloc _).alloc _
  rw [← hW1] at f1
  clear hW1
  replace ba := ba.fr f1 (fun h => h)
  replace bb := bb.fr f1 (fun h => h)
  replace g1 := g1.transNo f1
  clear f1
  have BA := Lib.hid ba
  have BB := Lib.hid bb
  have G1 := Lib.hid g1
  clear ba bb g1
  go_wp2_with fail
  obtain ⟨W, hW⟩ : ∃ W, W = w1.alloc (.cells #[.int .i64 k2, .int .i64 tick2, .int .i64 te2, .int .i64 ce2, .int .i64 ot2, .int .i64 ep2, .int .i64 fr2, .int .i64 un2, .int .i64 n2] TEnt) := ⟨_, rfl⟩
  have ba : Blk W w.heap.size TEnt #[.int .i64 k, .int .i64 tick, .int .i64 te, .int .i64 ce, .int .i64 ot, .int .i64 ep, .int .i64 fr, .int .i64 un, .int .i64 n] := by rw [hW]; exact BA.out.allocA _
  have bb : Blk W (w.heap.size + 1) TEnt #[.int .i64 k', .int .i64 tick', .int .i64 te', .int .i64 ce', .int .i64 ot', .int .i64 ep', .int .i64 fr', .int .i64 un', .int .i64 n'] := by rw [hW]; exact BB.out.allocA _
  have bc : Blk W w1.heap.size TEnt #[.int .i64 k2, .int .i64 tick2, .int .i64 te2, .int .i64 ce2, .int .i64 ot2, .int .i64 ep2, .int .i64 fr2, .int .i64 un2, .int .i64 n2] := by rw [hW]; exact Blk.new _ _ _
  have hF : Fr No w W := by rw [hW]; exact G1.out.alloc _
  rw [← hW]
  clear hW BA BB G1
  obtain ⟨ga, hga⟩ : ∃ g, g = w.heap.size := ⟨_, rfl⟩
  obtain ⟨gb, hgb⟩ : ∃ g, g = w.heap.size + 1 := ⟨_, rfl⟩
  obtain ⟨gc, hgc⟩ : ∃ g, g = w1.heap.size := ⟨_, rfl⟩
  rw [← hga] at ba
  rw [← hgb] at bb
  rw [← hgc] at bc
  rw [← hgb, ← hga, ← hgc]
  have hS : ∀ V, Fr No W V → V.cell? ⟨ga, 0, none⟩ = some (.int .i64 k) ∧ V.cell? ⟨ga, 1, none⟩ = some (.int .i64 tick) ∧ V.cell? ⟨ga, 2, none⟩ = some (.int .i64 te) ∧ V.cell? ⟨ga, 3, none⟩ = some (.int .i64 ce) ∧ V.cell? ⟨ga, 4, none⟩ = some (.int .i64 ot) ∧ V.cell? ⟨ga, 5, none⟩ = some (.int .i64 ep) ∧ V.cell? ⟨ga, 6, none⟩ = some (.int .i64 fr) ∧ V.cell? ⟨ga, 7, none⟩ = some (.int .i64 un) ∧ V.cell? ⟨ga, 8, none⟩ = some (.int .i64 n) ∧ V.cell? ⟨gb, 0, none⟩ = some (.int .i64 k') ∧ V.cell? ⟨gb, 1, none⟩ = some (.int .i64 tick') ∧ V.cell? ⟨gb, 2, none⟩ = some (.int .i64 te') ∧ V.cell? ⟨gb, 3, none⟩ = some (.int .i64 ce') ∧ V.cell? ⟨gb, 4, none⟩ = some (.int .i64 ot') ∧ V.cell? ⟨gb, 5, none⟩ = some (.int .i64 ep') ∧ V.cell? ⟨gb, 6, none⟩ = some (.int .i64 fr') ∧ V.cell? ⟨gb, 7, none⟩ = some (.int .i64 un') ∧ V.cell? ⟨gb, 8, none⟩ = some (.int .i64 n') ∧ V.cell? ⟨gc, 0, none⟩ = some (.int .i64 k2) ∧ V.cell? ⟨gc, 1, none⟩ = some (.int .i64 tick2) ∧ V.cell? ⟨gc, 2, none⟩ = some (.int .i64 te2) ∧ V.cell? ⟨gc, 3, none⟩ = some (.int .i64 ce2) ∧ V.cell? ⟨gc, 4, none⟩ = some (.int .i64 ot2) ∧ V.cell? ⟨gc, 5, none⟩ = some (.int .i64 ep2) ∧ V.cell? ⟨gc, 6, none⟩ = some (.int .i64 fr2) ∧ V.cell? ⟨gc, 7, none⟩ = some (.int .i64 un2) ∧ V.cell? ⟨gc, 8, none⟩ = some (.int .i64 n2) ∧ Fr No W V := fun V hV => ⟨(ba.fr hV (fun h => h)).cell 0, (ba.fr hV (fun h => h)).cell 1, (ba.fr hV (fun h => h)).cell 2, (ba.fr hV (fun h => h)).cell 3, (ba.fr hV (fun h => h)).cell 4, (ba.fr hV (fun h => h)).cell 5, (ba.fr hV (fun h => h)).cell 6, (ba.fr hV (fun h => h)).cell 7, (ba.fr hV (fun h => h)).cell 8, (bb.fr hV (fun h => h)).cell 0, (bb.fr hV (fun h => h)).cell 1, (bb.fr hV (fun h => h)).cell 2, (bb.fr hV (fun h => h)).cell 3, (bb.fr hV (fun h => h)).cell 4, (bb.fr hV (fun h => h)).cell 5, (bb.fr hV (fun h => h)).cell 6, (bb.fr hV (fun h => h)).cell 7, (bb.fr hV (fun h => h)).cell 8, (bc.fr hV (fun h => h)).cell 0, (bc.fr hV (fun h => h)).cell 1, (bc.fr hV (fun h => h)).cell 2, (bc.fr hV (fun h => h)).cell 3, (bc.fr hV (fun h => h)).cell 4, (bc.fr hV (fun h => h)).cell 5, (bc.fr hV (fun h => h)).cell 6, (bc.fr hV (fun h => h)).cell 7, (bc.fr hV (fun h => h)).cell 8, hV⟩
  clear hga hgb hgc ba bb bc
  have FF := Lib.hid ((Fr.refl No W).drew)
  replace HT := Lib.hid (HT.out.frNo hF)
  have HS := Lib.hid hS
  have HF := Lib.hid hF
  clear hS hF
  refine wp_region_held_drew (S := fun V => V.cell? ⟨ga, 0, none⟩ = some (.int .i64 k) ∧ V.cell? ⟨ga, 1, none⟩ = some (.int .i64 tick) ∧ V.cell? ⟨ga, 2, none⟩ = some (.int .i64 te) ∧ V.cell? ⟨ga, 3, none⟩ = some (.int .i64 ce) ∧ V.cell? ⟨ga, 4, none⟩ = some (.int .i64 ot) ∧ V.cell? ⟨ga, 5, none⟩ = some (.int .i64 ep) ∧ V.cell? ⟨ga, 6, none⟩ = some (.int .i64 fr) ∧ V.cell? ⟨ga, 7, none⟩ = some (.int .i64 un) ∧ V.cell? ⟨ga, 8, none⟩ = some (.int .i64 n) ∧ V.cell? ⟨gb, 0, none⟩ = some (.int .i64 k') ∧ V.cell? ⟨gb, 1, none⟩ = some (.int .i64 tick') ∧ V.cell? ⟨gb, 2, none⟩ = some (.int .i64 te') ∧ V.cell? ⟨gb, 3, none⟩ = some (.int .i64 ce') ∧ V.cell? ⟨gb, 4, none⟩ = some (.int .i64 ot') ∧ V.cell? ⟨gb, 5, none⟩ = some (.int .i64 ep') ∧ V.cell? ⟨gb, 6, none⟩ = some (.int .i64 fr') ∧ V.cell? ⟨gb, 7, none⟩ = some (.int .i64 un') ∧ V.cell? ⟨gb, 8, none⟩ = some (.int .i64 n') ∧ V.cell? ⟨gc, 0, none⟩ = some (.int .i64 k2) ∧ V.cell? ⟨gc, 1, none⟩ = some (.int .i64 tick2) ∧ V.cell? ⟨gc, 2, none⟩ = some (.int .i64 te2) ∧ V.cell? ⟨gc, 3, none⟩ = some (.int .i64 ce2) ∧ V.cell? ⟨gc, 4, none⟩ = some (.int .i64 ot2) ∧ V.cell? ⟨gc, 5, none⟩ = some (.int .i64 ep2) ∧ V.cell? ⟨gc, 6, none⟩ = some (.int .i64 fr2) ∧ V.cell? ⟨gc, 7, none⟩ = some (.int .i64 un2) ∧ V.cell? ⟨gc, 8, none⟩ = some (.int .i64 n2) ∧ Fr No W V) (by kernel_rfl) (HS.out _ FF.out) (fun hHeld => ?_)
  refine wpAnyH_ready (rs := [0]) (by kernel_rfl) (by simp) (AllReadyH.cons rfl (fun K hK => ?_) AllReadyH.nil)
  go_simp
  refine (awake6_any _ (HT.out.frNo FF.out)).mono ?_
  rintro e w5 ⟨rfl, f5⟩
  replace FF := Lib.hid (FF.out.transNo f5)
  clear f5
  go_wp2_with fail
  clear hHeld
  refine hK.out _ _ (HS.out _ FF.out) (fun hHeld => ?_)
  clear hK K
  try simp only [Act.put, List.setIfInBounds_toArray, List.set_cons_zero, List.set_cons_succ, List.getElem_toArray, List.getElem_cons_zero, List.getElem_cons_succ]
  refine wpAnyH_take (i := 1) (v := ?_) rfl (by kernel_rfl) (by kernel_rfl) (by kernel_rfl) (fun _ _ _ h => h) (Or.inl ⟨by rfl, ?_⟩) (by assumption) ?_
  rotate_left
  · (intro w hSw; (try dsimp only at hSw); go_simp) <;> with_reducible rfl
  simp only [Act.put, List.setIfInBounds_toArray, List.set_cons_zero, List.set_cons_succ, List.getElem_toArray, List.getElem_cons_zero, List.getElem_cons_succ]
  refine wpAnyH_take (i := 2) (v := ?_) rfl (by kernel_rfl) (by kernel_rfl) (by kernel_rfl) (fun _ _ _ h => h) (Or.inl ⟨by rfl, ?_⟩) (by assumption) ?_
  rotate_left
  · (intro w hSw; (try dsimp only at hSw); go_simp) <;> with_reducible rfl
  simp only [Act.put, List.setIfInBounds_toArray, List.set_cons_zero, List.set_cons_succ, List.getElem_toArray, List.getElem_cons_zero, List.getElem_cons_succ]
  refine wpAnyH_take (i := 4) (v := ?_) rfl (by kernel_rfl) (by kernel_rfl) (by kernel_rfl) (fun _ _ _ h => h) (Or.inl ⟨by rfl, ?_⟩) (by assumption) ?_
  rotate_left
  · (intro w hSw; (try dsimp only at hSw); go_simp) <;> with_reducible rfl
  simp only [Act.put, List.setIfInBounds_toArray, List.set_cons_zero, List.set_cons_succ, List.getElem_toArray, List.getElem_cons_zero, List.getElem_cons_succ]
  refine wpAnyH_take (i := 7) (v := ?_) rfl (by kernel_rfl) (by kernel_rfl) (by kernel_rfl) (fun _ _ _ h => h) (Or.inl ⟨by rfl, ?_⟩) (by assumption) ?_
  rotate_left
  · (intro w hSw; (try dsimp only at hSw); go_simp) <;> with_reducible rfl
  simp only [Act.put, List.setIfInBounds_toArray, List.set_cons_zero, List.set_cons_succ, List.getElem_toArray, List.getElem_cons_zero, List.getElem_cons_succ]
  refine wpAnyH_take (i := 8) (v := ?_) rfl (by kernel_rfl) (by kernel_rfl) (by kernel_rfl) (fun _ _ _ h => h) (Or.inl ⟨by rfl, ?_⟩) (by assumption) ?_
  rotate_left
  · (intro w hSw; (try dsimp only at hSw); go_simp) <;> with_reducible rfl
  simp only [Act.put, List.setIfInBounds_toArray, List.set_cons_zero, List.set_cons_succ, List.getElem_toArray, List.getElem_cons_zero, List.getElem_cons_succ]
  refine wpAnyH_take (i := 9) (v := ?_) rfl (by kernel_rfl) (by kernel_rfl) (by kernel_rfl) (fun _ _ _ h => h) (Or.inl ⟨by rfl, ?_⟩) (by assumption) ?_
  rotate_left
  · (intro w hSw; (try dsimp only at hSw); go_simp) <;> with_reducible rfl
  simp only [Act.put, List.setIfInBounds_toArray, List.set_cons_zero, List.set_cons_succ, List.getElem_toArray, List.getElem_cons_zero, List.getElem_cons_succ]
  refine wpAnyH_ready (rs := [3]) (by kernel_rfl) (by simp) (AllReadyH.cons rfl (fun K hK => ?_) AllReadyH.nil)
  go_simp
  refine (HA.out _).mono ?_
  rintro e w5 ⟨AO1, cO1, rfl, o5, f5⟩
  have O1 := Lib.hid o5
  clear o5
  replace FF := Lib.hid (FF.out.transNo f5)
  clear f5
  go_wp2_with fail
  clear hHeld
  refine hK.out _ _ (HS.out _ FF.out) (fun hHeld => ?_)
  clear hK K
  try simp only [Act.put, List.setIfInBounds_toArray, List.set_cons_zero, List.set_cons_succ, List.getElem_toArray, List.getElem_cons_zero, List.getElem_cons_succ]
  refine wpAnyH_ready (rs := [5]) (by kernel_rfl) (by simp) (AllReadyH.cons rfl (fun K hK => ?_) AllReadyH.nil)
  go_simp
  refine (HB.out _).mono ?_
  rintro e w5 ⟨AO2, cO2, rfl, o5, f5⟩
  have O2 := Lib.hid o5
  replace O1 := Lib.hid (O1.out.frNo f5)
  clear o5
  replace FF := Lib.hid (FF.out.transNo f5)
  clear f5
  go_wp2_with fail
  clear hHeld
  refine hK.out _ _ (HS.out _ FF.out) (fun hHeld => ?_)
  clear hK K
  try simp only [Act.put, List.setIfInBounds_toArray, List.set_cons_zero, List.set_cons_succ, List.getElem_toArray, List.getElem_cons_zero, List.getElem_cons_succ]
  refine wpAnyH_ready (rs := [6]) (by kernel_rfl) (by simp) (AllReadyH.cons rfl (fun K hK => ?_) AllReadyH.nil)
  go_simp
  refine (same_bytes _ _ _ _ _ _ (enB ⟨k, tick, te, ce, ot, ep, fr, un, n⟩) (enB ⟨k', tick', te', ce', ot', ep', fr', un', n'⟩) _ _ _ O1.out.len.2 rfl O1.out.rd O2.out.len.2 rfl O2.out.rd).mono ?_
  rintro e w5 ⟨rfl, rfl⟩
  rw [HQ1.out]
  clear O1 O2
  go_wp2_with fail
  clear hHeld
  refine hK.out _ _ (HS.out _ FF.out) (fun hHeld => ?_)
  clear hK K
  try simp only [Act.put, List.setIfInBounds_toArray, List.set_cons_zero, List.set_cons_succ, List.getElem_toArray, List.getElem_cons_zero, List.getElem_cons_succ]
  refine wpAnyH_take (i := 10) (v := ?_) rfl (by kernel_rfl) (by kernel_rfl) (by kernel_rfl) (fun _ _ _ h => h) (Or.inl ⟨by rfl, ?_⟩) (by assumption) ?_
  rotate_left
  · (intro w hSw; (try dsimp only at hSw); go_simp) <;> with_reducible rfl
  simp only [Act.put, List.setIfInBounds_toArray, List.set_cons_zero, List.set_cons_succ, List.getElem_toArray, List.getElem_cons_zero, List.getElem_cons_succ]
  refine wpAnyH_take (i := 11) (v := ?_) rfl (by kernel_rfl) (by kernel_rfl) (by kernel_rfl) (fun _ _ _ h => h) (Or.inl ⟨by rfl, ?_⟩) (by assumption) ?_
  rotate_left
  · (intro w hSw; (try dsimp only at hSw); go_simp) <;> with_reducible rfl
  simp only [Act.put, List.setIfInBounds_toArray, List.set_cons_zero, List.set_cons_succ, List.getElem_toArray, List.getElem_cons_zero, List.getElem_cons_succ]
  refine wpAnyH_take (i := 12) (v := ?_) rfl (by kernel_rfl) (by kernel_rfl) (by kernel_rfl) (fun _ _ _ h => h) (Or.inl ⟨by rfl, ?_⟩) (by assumption) ?_
  rotate_left
  · (intro w hSw; (try dsimp only at hSw); go_simp) <;> with_reducible rfl
  simp only [Act.put, List.setIfInBounds_toArray, List.set_cons_zero, List.set_cons_succ, List.getElem_toArray, List.getElem_cons_zero, List.getElem_cons_succ]
  refine wpAnyH_take (i := 13) (v := ?_) rfl (by kernel_rfl) (by kernel_rfl) (by kernel_rfl) (fun _ _ _ h => h) (Or.inl ⟨by rfl, ?_⟩) (by assumption) ?_
  rotate_left
  · (intro w hSw; (try dsimp only at hSw); go_simp) <;> with_reducible rfl
  simp only [Act.put, List.setIfInBounds_toArray, List.set_cons_zero, List.set_cons_succ, List.getElem_toArray, List.getElem_cons_zero, List.getElem_cons_succ]
  refine wpAnyH_take (i := 15) (v := ?_) rfl (by kernel_rfl) (by kernel_rfl) (by kernel_rfl) (fun _ _ _ h => h) (Or.inl ⟨by rfl, ?_⟩) (by assumption) ?_
  rotate_left
  · (intro w hSw; (try dsimp only at hSw); go_simp) <;> with_reducible rfl
  simp only [Act.put, List.setIfInBounds_toArray, List.set_cons_zero, List.set_cons_succ, List.getElem_toArray, List.getElem_cons_zero, List.getElem_cons_succ]
  refine wpAnyH_take (i := 18) (v := ?_) rfl (by kernel_rfl) (by kernel_rfl) (by kernel_rfl) (fun _ _ _ h => h) (Or.inl ⟨by rfl, ?_⟩) (by assumption) ?_
  rotate_left
  · (intro w hSw; (try dsimp only at hSw); go_simp) <;> with_reducible rfl
  simp only [Act.put, List.setIfInBounds_toArray, List.set_cons_zero, List.set_cons_succ, List.getElem_toArray, List.getElem_cons_zero, List.getElem_cons_succ]
  refine wpAnyH_take (i := 19) (v := ?_) rfl (by kernel_rfl) (by kernel_rfl) (by kernel_rfl) (fun _ _ _ h => h) (Or.inl ⟨by rfl, ?_⟩) (by assumption) ?_
  rotate_left
  · (intro w hSw; (try dsimp only at hSw); go_simp) <;> with_reducible rfl
  simp only [Act.put, List.setIfInBounds_toArray, List.set_cons_zero, List.set_cons_succ, List.getElem_toArray, List.getElem_cons_zero, List.getElem_cons_succ]
  refine wpAnyH_take (i := 20) (v := ?_) rfl (by kernel_rfl) (by kernel_rfl) (by kernel_rfl) (fun _ _ _ h => h) (Or.inl ⟨by rfl, ?_⟩) (by assumption) ?_
  rotate_left
  · (intro w hSw; (try dsimp only at hSw); go_simp) <;> with_reducible rfl
  simp only [Act.put, List.setIfInBounds_toArray, List.set_cons_zero, List.set_cons_succ, List.getElem_toArray, List.getElem_cons_zero, List.getElem_cons_succ]
  refine wpAnyH_ready (rs := [14]) (by kernel_rfl) (by simp) (AllReadyH.cons rfl (fun K hK => ?_) AllReadyH.nil)
  go_simp
  refine (HA.out _).mono ?_
  rintro e w5 ⟨AO3, cO3, rfl, o5, f5⟩
  have O3 := Lib.hid o5
  clear o5
  replace FF := Lib.hid (FF.out.transNo f5)
  clear f5
  go_wp2_with fail
  clear hHeld
  refine hK.out _ _ (HS.out _ FF.out) (fun hHeld => ?_)
  clear hK K
  try simp only [Act.put, List.setIfInBounds_toArray, List.set_cons_zero, List.set_cons_succ, List.getElem_toArray, List.getElem_cons_zero, List.getElem_cons_succ]
  refine wpAnyH_ready (rs := [16]) (by kernel_rfl) (by simp) (AllReadyH.cons rfl (fun K hK => ?_) AllReadyH.nil)
  go_simp
  refine (HC.out _).mono ?_
  rintro e w5 ⟨AO4, cO4, rfl, o5, f5⟩
  have O4 := Lib.hid o5
  replace O3 := Lib.hid (O3.out.frNo f5)
  clear o5
  replace FF := Lib.hid (FF.out.transNo f5)
  clear f5
  go_wp2_with fail
  clear hHeld
  refine hK.out _ _ (HS.out _ FF.out) (fun hHeld => ?_)
  clear hK K
  try simp only [Act.put, List.setIfInBounds_toArray, List.set_cons_zero, List.set_cons_succ, List.getElem_toArray, List.getElem_cons_zero, List.getElem_cons_succ]
  refine wpAnyH_ready (rs := [17]) (by kernel_rfl) (by simp) (AllReadyH.cons rfl (fun K hK => ?_) AllReadyH.nil)
  go_simp
  refine (same_bytes _ _ _ _ _ _ (enB ⟨k, tick, te, ce, ot, ep, fr, un, n⟩) (enB ⟨k2, tick2, te2, ce2, ot2, ep2, fr2, un2, n2⟩) _ _ _ O3.out.len.2 rfl O3.out.rd O4.out.len.2 rfl O4.out.rd).mono ?_
  rintro e w5 ⟨rfl, rfl⟩
  rw [HQ2.out]
  clear O3 O4
  go_wp2_with fail
  clear hHeld
  refine hK.out _ _ (HS.out _ FF.out) (fun hHeld => ?_)
  clear hK K
  try simp only [Act.put, List.setIfInBounds_toArray, List.set_cons_zero, List.set_cons_succ, List.getElem_toArray, List.getElem_cons_zero, List.getElem_cons_succ]
  refine wpAnyH_take (i := 21) (v := ?_) rfl (by kernel_rfl) (by kernel_rfl) (by kernel_rfl) (fun _ _ _ h => h) (Or.inl ⟨by rfl, ?_⟩) (by assumption) ?_
  rotate_left
  · (intro w hSw; (try dsimp only at hSw); go_simp) <;> with_reducible rfl
  simp only [Act.put, List.setIfInBounds_toArray, List.set_cons_zero, List.set_cons_succ, List.getElem_toArray, List.getElem_cons_zero, List.getElem_cons_succ]
  refine wpAnyH_take (i := 22) (v := ?_) rfl (by kernel_rfl) (by kernel_rfl) (by kernel_rfl) (fun _ _ _ h => h) (Or.inl ⟨by rfl, ?_⟩) (by assumption) ?_
  rotate_left
  · (intro w hSw; (try dsimp only at hSw); go_simp) <;> with_reducible rfl
  simp only [Act.put, List.setIfInBounds_toArray, List.set_cons_zero, List.set_cons_succ, List.getElem_toArray, List.getElem_cons_zero, List.getElem_cons_succ]
  refine wpAnyH_take (i := 23) (v := ?_) rfl (by kernel_rfl) (by kernel_rfl) (by kernel_rfl) (fun _ _ _ h => h) (Or.inl ⟨by rfl, ?_⟩) (by assumption) ?_
  rotate_left
  · (intro w hSw; (try dsimp only at hSw); go_simp) <;> with_reducible rfl
  simp only [Act.put, List.setIfInBounds_toArray, List.set_cons_zero, List.set_cons_succ, List.getElem_toArray, List.getElem_cons_zero, List.getElem_cons_succ]
  refine wpAnyH_done (by kernel_rfl) ?_ _
  go_wp2_with fail
  go_ret
  exact ⟨ret_bool rfl, (HF.out.transNo FF.out).belowNo⟩
end Go.Proofs.YtlikfhjlomohkaaDoor
