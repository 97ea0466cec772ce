/-
  The walk of EntryKinds.
-/
import Derived.Test.YtlikfhjlomohkaaDoorEntA
import Derived.Deep.RegionHeld3
namespace Go.Proofs.YtlikfhjlomohkaaDoor
open Go.ChangeShapes Go.WideShapes Go.ChangeAt Go.RowKit
set_option linter.unusedVariables false

set_option maxHeartbeats 4000000 in
theorem EntryKinds_walk (a0 a1 a2 a3 a4 a5 a6 a7 : Int) (w : World) (_w0 : (Lit.int .i64 a0).wf = true) (_w1 : (Lit.int .i64 a1).wf = true) (_w2 : (Lit.int .i64 a2).wf = true) (_w3 : (Lit.int .i64 a3).wf = true) (_w4 : (Lit.int .i64 a4).wf = true) (_w5 : (Lit.int .i64 a5).wf = true) (_w6 : (Lit.int .i64 a6).wf = true) (_w7 : (Lit.int .i64 a7).wf = true) (hT : TabN w) :
    Calls Tryd.prog 4 #[.int .i64 a0, .int .i64 a1, .int .i64 a2, .int .i64 a3, .int .i64 a4, .int .i64 a5, .int .i64 a6, .int .i64 a7] w fun e w' => e = .returned (.bool true) ∧ Below w.heap.size w w' := by
  have HT := Lib.hid hT
  clear hT _w0 _w1 _w2 _w3 _w4 _w5 _w6 _w7
  go_enter Tryd.func4, Tryd.ntmps4
  go_wp2_with fail
  refine (between_any a0 (0) 17 _ (by decide) (by decide) (by decide)).mono ?_
  rintro e w1 ⟨rfl, rfl⟩
  obtain ⟨k, hk⟩ : ∃ v, v = (0 : Int) + a0 % (17 - (0) + 1) := ⟨_, rfl⟩
  rw [← hk]
  clear hk
  go_wp2_with fail
  refine (between_any a1 (-1) 1 _ (by decide) (by decide) (by decide)).mono ?_
  rintro e w1 ⟨rfl, rfl⟩
  obtain ⟨te, hte⟩ : ∃ v, v = (-1 : Int) + a1 % (1 - (-1) + 1) := ⟨_, rfl⟩
  rw [← hte]
  clear hte
  go_wp2_with fail
  refine (between_any a2 (-1) 1 _ (by decide) (by decide) (by decide)).mono ?_
  rintro e w1 ⟨rfl, rfl⟩
  obtain ⟨ce, hce⟩ : ∃ v, v = (-1 : Int) + a2 % (1 - (-1) + 1) := ⟨_, rfl⟩
  rw [← hce]
  clear hce
  go_wp2_with fail
  refine (between_any a3 (-1) 1 _ (by decide) (by decide) (by decide)).mono ?_
  rintro e w1 ⟨rfl, rfl⟩
  obtain ⟨ot, hot⟩ : ∃ v, v = (-1 : Int) + a3 % (1 - (-1) + 1) := ⟨_, rfl⟩
  rw [← hot]
  clear hot
  go_wp2_with fail
  refine (between_any a4 (0) 1 _ (by decide) (by decide) (by decide)).mono ?_
  rintro e w1 ⟨rfl, rfl⟩
  obtain ⟨ep, hep⟩ : ∃ v, v = (0 : Int) + a4 % (1 - (0) + 1) := ⟨_, rfl⟩
  rw [← hep]
  clear hep
  go_wp2_with fail
  refine (between_any a5 (0) 1 _ (by decide) (by decide) (by decide)).mono ?_
  rintro e w1 ⟨rfl, rfl⟩
  obtain ⟨fr, hfr⟩ : ∃ v, v = (0 : Int) + a5 % (1 - (0) + 1) := ⟨_, rfl⟩
  rw [← hfr]
  clear hfr
  go_wp2_with fail
  refine (between_any a6 (0) 1 _ (by decide) (by decide) (by decide)).mono ?_
  rintro e w1 ⟨rfl, rfl⟩
  obtain ⟨un, hun⟩ : ∃ v, v = (0 : Int) + a6 % (1 - (0) + 1) := ⟨_, rfl⟩
  rw [← hun]
  clear hun
  go_wp2_with fail
  refine (between_any a7 (0) 4 _ (by decide) (by decide) (by decide)).mono ?_
  rintro e w1 ⟨rfl, rfl⟩
  obtain ⟨n, hn⟩ : ∃ v, v = (0 : Int) + a7 % (4 - (0) + 1) := ⟨_, rfl⟩
  rw [← hn]
  clear hn
  go_wp2_with fail
  obtain ⟨W, hW⟩ : ∃ W, W = (w.alloc (.cells #[.int .i64 k, .int .i64 0, .int .i64 te, .int .i64 ce, .int .i64 ot, .int .i64 ep, .int .i64 fr, .int .i64 un, .int .i64 n] TEnt)).alloc (.cells #[.int .i64 k, .int .i64 0, .int .i64 te, .int .i64 ce, .int .i64 ot, .int .i64 0, .int .i64 0, .int .i64 0, .int .i64 n] TEnt) := ⟨_, rfl⟩
  have b1 : Blk W w.heap.size TEnt #[.int .i64 k, .int .i64 0, .int .i64 te, .int .i64 ce, .int .i64 ot, .int .i64 ep, .int .i64 fr, .int .i64 un, .int .i64 n] := by rw [hW]; exact (Blk.new _ _ _).allocA _
  have b2 : Blk W (w.heap.size + 1) TEnt #[.int .i64 k, .int .i64 0, .int .i64 te, .int .i64 ce, .int .i64 ot, .int .i64 0, .int .i64 0, .int .i64 0, .int .i64 n] := by rw [hW]; exact Blk.new' _ _ _ _ (by simp)
  have hF : Fr No w W := by rw [hW]; exact ((Fr.refl No w).alloc _).alloc _
  have hS : ∀ V, Fr No W V → V.cell? ⟨w.heap.size, 0, none⟩ = some (.int .i64 k) ∧ V.cell? ⟨w.heap.size, 1, none⟩ = some (.int .i64 0) ∧ V.cell? ⟨w.heap.size, 2, none⟩ = some (.int .i64 te) ∧ V.cell? ⟨w.heap.size, 3, none⟩ = some (.int .i64 ce) ∧ V.cell? ⟨w.heap.size, 4, none⟩ = some (.int .i64 ot) ∧ V.cell? ⟨w.heap.size, 5, none⟩ = some (.int .i64 ep) ∧ V.cell? ⟨w.heap.size, 6, none⟩ = some (.int .i64 fr) ∧ V.cell? ⟨w.heap.size, 7, none⟩ = some (.int .i64 un) ∧ V.cell? ⟨w.heap.size, 8, none⟩ = some (.int .i64 n) ∧ V.cell? ⟨w.heap.size + 1, 0, none⟩ = some (.int .i64 k) ∧ V.cell? ⟨w.heap.size + 1, 1, none⟩ = some (.int .i64 0) ∧ V.cell? ⟨w.heap.size + 1, 2, none⟩ = some (.int .i64 te) ∧ V.cell? ⟨w.heap.size + 1, 3, none⟩ = some (.int .i64 ce) ∧ V.cell? ⟨w.heap.size + 1, 4, none⟩ = some (.int .i64 ot) ∧ V.cell? ⟨w.heap.size + 1, 5, none⟩ = some (.int .i64 0) ∧ V.cell? ⟨w.heap.size + 1, 6, none⟩ = some (.int .i64 0) ∧ V.cell? ⟨w.heap.size + 1, 7, none⟩ = some (.int .i64 0) ∧ V.cell? ⟨w.heap.size + 1, 8, none⟩ = some (.int .i64 n) ∧ Fr No W V := fun V hV => ⟨(b1.fr hV (fun h => h)).cell 0, (b1.fr hV (fun h => h)).cell 1, (b1.fr hV (fun h => h)).cell 2, (b1.fr hV (fun h => h)).cell 3, (b1.fr hV (fun h => h)).cell 4, (b1.fr hV (fun h => h)).cell 5, (b1.fr hV (fun h => h)).cell 6, (b1.fr hV (fun h => h)).cell 7, (b1.fr hV (fun h => h)).cell 8, (b2.fr hV (fun h => h)).cell 0, (b2.fr hV (fun h => h)).cell 1, (b2.fr hV (fun h => h)).cell 2, (b2.fr hV (fun h => h)).cell 3, (b2.fr hV (fun h => h)).cell 4, (b2.fr hV (fun h => h)).cell 5, (b2.fr hV (fun h => h)).cell 6, (b2.fr hV (fun h => h)).cell 7, (b2.fr hV (fun h => h)).cell 8, hV⟩
  rw [← hW]
  clear hW
  obtain ⟨s1, hs1⟩ : ∃ s, s = shapeB ⟨k, 0, te, ce, ot, ep, fr, un, n⟩ := ⟨_, rfl⟩
  obtain ⟨s2, hs2⟩ : ∃ s, s = shapeB ⟨k, 0, te, ce, ot, 0, 0, 0, n⟩ := ⟨_, rfl⟩
  have p1 : ∀ V, Calls Tryd.prog 16 #[.agg #[.int .i64 k, .int .i64 0, .int .i64 te, .int .i64 ce, .int .i64 ot, .int .i64 ep, .int .i64 fr, .int .i64 un, .int .i64 n]] V fun r w' => r = .returned (.bool s1) ∧ Fr No V w' := fun V => by rw [hs1]; exact shape_any _ V
  have p2 : ∀ V, Calls Tryd.prog 16 #[.agg #[.int .i64 k, .int .i64 0, .int .i64 te, .int .i64 ce, .int .i64 ot, .int .i64 0, .int .i64 0, .int .i64 0, .int .i64 n]] V fun r w' => r = .returned (.bool s2) ∧ Fr No V w' := fun V => by rw [hs2]; exact shape_any _ V
  have q1 : ∀ V, Calls Tryd.prog 17 #[.agg #[.int .i64 k, .int .i64 0, .int .i64 te, .int .i64 ce, .int .i64 ot, .int .i64 ep, .int .i64 fr, .int .i64 un, .int .i64 n]] V fun r w' => r = .returned (.bool s1) ∧ Fr No V w' := fun V => by rw [hs1]; exact rShape_any _ V
  have q2 : ∀ V, Calls Tryd.prog 17 #[.agg #[.int .i64 k, .int .i64 0, .int .i64 te, .int .i64 ce, .int .i64 ot, .int .i64 0, .int .i64 0, .int .i64 0, .int .i64 n]] V fun r w' => r = .returned (.bool s2) ∧ Fr No V w' := fun V => by rw [hs2]; exact rShape_any _ V
  clear hs1 hs2 b1 b2
  have HT2 := Lib.hid (HT.out.frNo hF)
  have FF := Lib.hid ((Fr.refl No W).drew)
  clear HT
  have HF := Lib.hid hF
  have HS := Lib.hid hS
  have P1 := Lib.hid p1
  have P2 := Lib.hid p2
  have Q1 := Lib.hid q1
  have Q2 := Lib.hid q2
  clear hF hS p1 p2 q1 q2
  go_region_held3 (fun V => V.cell? ⟨w.heap.size, 0, none⟩ = some (.int .i64 k) ∧ V.cell? ⟨w.heap.size, 1, none⟩ = some (.int .i64 0) ∧ V.cell? ⟨w.heap.size, 2, none⟩ = some (.int .i64 te) ∧ V.cell? ⟨w.heap.size, 3, none⟩ = some (.int .i64 ce) ∧ V.cell? ⟨w.heap.size, 4, none⟩ = some (.int .i64 ot) ∧ V.cell? ⟨w.heap.size, 5, none⟩ = some (.int .i64 ep) ∧ V.cell? ⟨w.heap.size, 6, none⟩ = some (.int .i64 fr) ∧ V.cell? ⟨w.heap.size, 7, none⟩ = some (.int .i64 un) ∧ V.cell? ⟨w.heap.size, 8, none⟩ = some (.int .i64 n) ∧ V.cell? ⟨w.heap.size + 1, 0, none⟩ = some (.int .i64 k) ∧ V.cell? ⟨w.heap.size + 1, 1, none⟩ = some (.int .i64 0) ∧ V.cell? ⟨w.heap.size + 1, 2, none⟩ = some (.int .i64 te) ∧ V.cell? ⟨w.heap.size + 1, 3, none⟩ = some (.int .i64 ce) ∧ V.cell? ⟨w.heap.size + 1, 4, none⟩ = some (.int .i64 ot) ∧ V.cell? ⟨w.heap.size + 1, 5, none⟩ = some (.int .i64 0) ∧ V.cell? ⟨w.heap.size + 1, 6, none⟩ = some (.int .i64 0) ∧ V.cell? ⟨w.heap.size + 1, 7, none⟩ = some (.int .i64 0) ∧ V.cell? ⟨w.heap.size + 1, 8, none⟩ = some (.int .i64 n) ∧ Fr No W V) (exact HS.out _ FF.out) (first
    | (go_at_call 12; refine (awake6_any _ (HT2.out.frNo FF.out)).mono ?_; rintro e w5 ⟨rfl, f5⟩; replace FF := Lib.hid (FF.out.transNo f5); clear f5)
    | (go_at_call 16; (first | with_reducible refine (P1.out _).mono ?_ | with_reducible refine (P2.out _).mono ?_); rintro e w5 ⟨rfl, f5⟩; replace FF := Lib.hid (FF.out.transNo f5); clear f5)
    | (go_at_call 17; (first | with_reducible refine (Q1.out _).mono ?_ | with_reducible refine (Q2.out _).mono ?_); rintro e w5 ⟨rfl, f5⟩; replace FF := Lib.hid (FF.out.transNo f5); clear f5))
  go_wp2_with fail
  go_ret
  exact ⟨ret_bool rfl, (HF.out.transNo FF.out).belowNo⟩
end Go.Proofs.YtlikfhjlomohkaaDoor
