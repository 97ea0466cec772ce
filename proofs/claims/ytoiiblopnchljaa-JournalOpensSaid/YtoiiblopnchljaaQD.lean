/-
  Several texts in one: JSame.
-/
import Derived.Test.YtoiiblopnchljaaQC
import Derived.Test.YtoiiblopnchljaaQB
import Derived.Test.YtoiiblopnchljaaQA
import Derived.Test.YtoiiblopnchljaaLgEq
import Derived.Test.YtoiiblopnchljaaSame
import Derived.Deep.RegionHeld3
/- The contract of the law's 'same': a journal and the reference's that remember the same. -/
namespace Go.Proofs.Ytoiiblopnchljaa
open Go.ChangeShapes Go.WideShapes Go.ChangeAt Go.RowKit
set_option linter.unusedVariables false

theorem termAt_low (l : List Lg) : termAt l (-1) = 0 := by unfold termAt; rw [if_neg (by decide)]
theorem termAt_high (l : List Lg) : termAt l (l.length : Int) = 0 := by
  unfold termAt
  rw [if_pos (by omega), Int.toNat_natCast, List.getElem?_eq_none (Nat.le_refl _)]
  rfl

set_option maxRecDepth 100000 in
set_option maxHeartbeats 8000000 in
theorem same8_any {w : World} {F G : Nat → Prop} {j d r d2 : Nat} {xs : List UInt8} {k k2 : Nat} {s : Js} (hj : JAt w F j d xs k s) (hr : RJAt w G r d2 xs k2 s) (hlen : s.log.length ≤ 4096) :
    Calls Try.prog 32 #[.pointer (some ⟨j, 0, none⟩), .pointer (some ⟨r, 0, none⟩)] w fun e w' => e = .returned (.bool true) ∧ Fr No w w' := by
  have hT := fun V (hf : Fr No w V) => j_term (hj.frNo hf)
  have hV := fun V (hf : Fr No w V) => j_vote (hj.frNo hf)
  have hL := fun V (hf : Fr No w V) => j_len (hj.frNo hf)
  have hB := fun V (hf : Fr No w V) => j_bytes (hj.frNo hf)
  have hA := fun V (hf : Fr No w V) i => j_at (hj.frNo hf) i
  have hRA := fun V (hf : Fr No w V) i => rj_at (hr.frNo hf) i
  have hTA := fun V (hf : Fr No w V) i => j_termAt (hj.frNo hf) i
  have t1 := termAt_low s.log
  have t2 := termAt_high s.log
  obtain ⟨Ab, cb, q1, nb, hcb, rb, -⟩ := hr.bytes
  obtain ⟨Al, cl, Fd, h1, h2, h3, h4, h5, h6, h7, h8, c0, c1, c2, c3, hn⟩ := hr.open_
  have hrl := h1.lt
  have hdl : d2 < w.heap.size := World.block_lt_of_cell? w ⟨d2, 0, none⟩ q1
  have hk : ∀ V, Fr No w V → V.cell? ⟨r, 0, none⟩ = some (.pointer (some ⟨d2, 0, none⟩)) ∧ V.cell? ⟨r, 1, none⟩ = some (.int .i64 s.term) ∧ V.cell? ⟨r, 2, none⟩ = some (.int .i64 s.vote) ∧ V.cell? ⟨r, 3, none⟩ = some (.slice Al s.log.length cl) ∧ V.cell? ⟨d2, 0, none⟩ = some (.slice Ab xs.length cb) := fun V hf => let g := h1.fr hf (fun h => h); ⟨g.cell 0, g.cell 1, g.cell 2, g.cell 3, by rw [hf.cell (p := ⟨d2, 0, none⟩) hdl (fun h => h)]; exact q1⟩
  have hSB := fun V A c B (hf : Fr No w V) (ho : Own V (fun i => B ≤ i) 5 (.slice A xs.length c) (xs.map bv)) => same_bytes A Ab xs.length c xs.length cb xs xs V.heap.size w.heap.size V ho.len.2 rfl ho.rd nb rfl (rb.frNo hf (Nat.le_refl _))
  simp only [beq_self_eq_true] at hSB
  have hat := atJ_term s.log
  clear hj hr h1 h2 h3 h4 h5 h6 h7 h8 hn c0 c1 c2 c3 q1 nb rb
  obtain ⟨n, hnl⟩ : ∃ n, n = s.log.length := ⟨_, rfl⟩
  rw [← hnl] at hlen hk hL t2
  generalize s.term = tm at *
  generalize s.vote = vt at *
  have HT := Lib.hid hT
  have HV := Lib.hid hV
  have HL := Lib.hid hL
  have HB := Lib.hid hB
  have HA := Lib.hid hA
  have HRA := Lib.hid hRA
  have HTA := Lib.hid hTA
  have HK := Lib.hid hk
  have HSB := Lib.hid hSB
  have HNL := Lib.hid hnl
  have HAT := Lib.hid hat
  clear hT hV hL hB hA hRA hTA hk hSB hnl hat
  go_enter Try.func32, Try.ntmps32
  go_wp2_with fail
  go_region_held3 (fun V => V.cell? ⟨r, 0, none⟩ = some (.pointer (some ⟨d2, 0, none⟩)) ∧ V.cell? ⟨r, 1, none⟩ = some (.int .i64 tm) ∧ V.cell? ⟨r, 2, none⟩ = some (.int .i64 vt) ∧ V.cell? ⟨r, 3, none⟩ = some (.slice Al n cl) ∧ V.cell? ⟨d2, 0, none⟩ = some (.slice Ab xs.length cb)) (exact HK.out _ (by repeat (first | assumption | exact Fr.refl _ _ | refine Fr.alloc ?_ _ | refine Fr.drew ?_ | refine Fr.drewN ?_ _))) (first
    | (go_at_call 13; refine (HT.out _ (by repeat (first | assumption | exact Fr.refl _ _ | refine Fr.alloc ?_ _ | refine Fr.drew ?_ | refine Fr.drewN ?_ _))).mono ?_; rintro e w' ⟨rfl, rfl⟩)
    | (go_at_call 14; refine (HV.out _ (by repeat (first | assumption | exact Fr.refl _ _ | refine Fr.alloc ?_ _ | refine Fr.drew ?_ | refine Fr.drewN ?_ _))).mono ?_; rintro e w' ⟨rfl, rfl⟩)
    | (go_at_call 15; refine (HL.out _ (by repeat (first | assumption | exact Fr.refl _ _ | refine Fr.alloc ?_ _ | refine Fr.drew ?_ | refine Fr.drewN ?_ _))).mono ?_; rintro e w' ⟨rfl, rfl⟩)
    | (go_at_call 34; refine (HB.out _ (by repeat (first | assumption | exact Fr.refl _ _ | refine Fr.alloc ?_ _ | refine Fr.drew ?_ | refine Fr.drewN ?_ _))).mono ?_; rintro e w5 ⟨A5, c5, rfl, o5, f5⟩; have F5 : Fr No w w5 := Fr.transNo (by repeat (first | assumption | exact Fr.refl _ _ | refine Fr.alloc ?_ _ | refine Fr.drew ?_ | refine Fr.drewN ?_ _)) f5; have O5 := Lib.hid o5; clear f5 o5)
    | (go_at_call 37; refine (HSB.out _ _ _ _ (by repeat (first | assumption | exact Fr.refl _ _ | refine Fr.alloc ?_ _ | refine Fr.drew ?_ | refine Fr.drewN ?_ _)) O5.out).mono ?_; rintro e w' ⟨rfl, rfl⟩)
    | (go_at_call 23; refine (HTA.out _ (by repeat (first | assumption | exact Fr.refl _ _ | refine Fr.alloc ?_ _ | refine Fr.drew ?_ | refine Fr.drewN ?_ _)) _).mono ?_; rintro e w6 ⟨rfl, f6⟩; have F6 : Fr No w w6 := Fr.transNo (by repeat (first | assumption | exact Fr.refl _ _ | refine Fr.alloc ?_ _ | refine Fr.drew ?_ | refine Fr.drewN ?_ _)) f6; clear f6))
  have FF := Lib.hid (show Fr No w _ from by assumption)
  clear t1 t2
  go_wp2_with fail
  go_loopw [5] (fun o wr => ∃ m : Nat, m ≤ n + 2 ∧ o = .int .i64 ((m : Int) - 1) ∧ Fr No w wr) (fun o _ => n + 2 - (intOf o + 1).toNat)
  case atStart => exact ⟨0, Nat.zero_le _, rfl, FF.out⟩
  case round =>
    obtain ⟨m, hm, rfl, f5⟩ := hrel
    obtain ⟨c0, c1, c2, c3, c4⟩ := HK.out _ f5
    have F5 := Lib.hid f5
    clear f5 FF
    by_cases hmn : m ≤ n + 1
    · have b1 : decide ((m : Int) - 1 ≤ (n : Int)) = true := by simp; omega
      have hA := HA.out
      have hRA := HRA.out
      have hTA := HTA.out
      have hat := HAT.out
      replace hA := fun V hf => hA V hf ((m : Int) - 1)
      replace hRA := fun V hf => hRA V hf ((m : Int) - 1)
      replace hTA := fun V hf => hTA V hf ((m : Int) - 1)
      replace hat := hat ((m : Int) - 1)
      generalize termAt s.log ((m : Int) - 1) = ta at *
      generalize (atJ s.log ((m : Int) - 1)).2 = ok at *
      generalize (atJ s.log ((m : Int) - 1)).1 = x at *
      have hN := fun W => lg_neq x x W
      simp only [decide_true, Bool.not_true] at hN
      obtain ⟨t, ⟨kd, tick, te, ce, ot, ep, fr, un, nn⟩⟩ := x
      simp only at hat
      subst hat
      unfold Lg.v at hA hRA hN
      simp only at hA hRA hN
      have hG := fun (u v : Operand) (V : World) => lg_guard .neq u v #[.int .i64 t, .int .i64 kd, .int .i64 tick, .int .i64 te, .int .i64 ce, .int .i64 ot, .int .i64 ep, .int .i64 fr, .int .i64 un, .int .i64 nn] #[.int .i64 t, .int .i64 kd, .int .i64 tick, .int .i64 te, .int .i64 ce, .int .i64 ot, .int .i64 ep, .int .i64 fr, .int .i64 un, .int .i64 nn] V
      clear HA HRA HTA HAT HT HV HL HB HSB
      have HA := Lib.hid hA
      have HRA := Lib.hid hRA
      have HTA := Lib.hid hTA
      clear hA hRA hTA
      go_wp2_with fail
      refine (HA.out _ F5.out).mono ?_
      rintro e w6 ⟨rfl, f6⟩
      have B6 := Lib.hid (Blk.new w6 TLg #[.int .i64 t, .int .i64 kd, .int .i64 tick, .int .i64 te, .int .i64 ce, .int .i64 ot, .int .i64 ep, .int .i64 fr, .int .i64 un, .int .i64 nn])
      have F6 := Lib.hid ((F5.out.transNo f6).alloc (.cells #[.int .i64 t, .int .i64 kd, .int .i64 tick, .int .i64 te, .int .i64 ce, .int .i64 ot, .int .i64 ep, .int .i64 fr, .int .i64 un, .int .i64 nn] TLg))
      obtain ⟨W6, hW6⟩ : ∃ W6, W6 = w6.alloc (.cells #[.int .i64 t, .int .i64 kd, .int .i64 tick, .int .i64 te, .int .i64 ce, .int .i64 ot, .int .i64 ep, .int .i64 fr, .int .i64 un, .int .i64 nn] TLg) := ⟨_, rfl⟩
      rw [← hW6] at B6 F6
      clear f6 c0 c1 c2 c3 c4
      have HW6 := Lib.hid hW6
      clear hW6
      go_wp2_with fail
      rw [← HW6.out]
      clear HW6
      refine (HRA.out _ F6.out).mono ?_
      rintro e w7 ⟨rfl, f7⟩
      have b6 := B6.out.fr (f7.alloc (.cells #[.int .i64 t, .int .i64 kd, .int .i64 tick, .int .i64 te, .int .i64 ce, .int .i64 ot, .int .i64 ep, .int .i64 fr, .int .i64 un, .int .i64 nn] TLg)) (fun h => h)
      have b7 := Blk.new w7 TLg #[.int .i64 t, .int .i64 kd, .int .i64 tick, .int .i64 te, .int .i64 ce, .int .i64 ot, .int .i64 ep, .int .i64 fr, .int .i64 un, .int .i64 nn]
      have F7 := Lib.hid ((F6.out.transNo f7).alloc (.cells #[.int .i64 t, .int .i64 kd, .int .i64 tick, .int .i64 te, .int .i64 ce, .int .i64 ot, .int .i64 ep, .int .i64 fr, .int .i64 un, .int .i64 nn] TLg))
      obtain ⟨W7, hW7⟩ : ∃ W7, W7 = w7.alloc (.cells #[.int .i64 t, .int .i64 kd, .int .i64 tick, .int .i64 te, .int .i64 ce, .int .i64 ot, .int .i64 ep, .int .i64 fr, .int .i64 un, .int .i64 nn] TLg) := ⟨_, rfl⟩
      rw [← hW7] at b6 b7 F7
      generalize w6.heap.size = g6 at *
      generalize hg7 : w7.heap.size = g7 at *
      clear f7 B6 F6
      have hS : ∀ V, Fr No W7 V → (V.cell? ⟨g6, 0, none⟩ = some (.int .i64 t) ∧ V.cell? ⟨g6, 1, none⟩ = some (.int .i64 kd) ∧ V.cell? ⟨g6, 2, none⟩ = some (.int .i64 tick) ∧ V.cell? ⟨g6, 3, none⟩ = some (.int .i64 te) ∧ V.cell? ⟨g6, 4, none⟩ = some (.int .i64 ce) ∧ V.cell? ⟨g6, 5, none⟩ = some (.int .i64 ot) ∧ V.cell? ⟨g6, 6, none⟩ = some (.int .i64 ep) ∧ V.cell? ⟨g6, 7, none⟩ = some (.int .i64 fr) ∧ V.cell? ⟨g6, 8, none⟩ = some (.int .i64 un) ∧ V.cell? ⟨g6, 9, none⟩ = some (.int .i64 nn)) ∧
        (V.cell? ⟨g7, 0, none⟩ = some (.int .i64 t) ∧ V.cell? ⟨g7, 1, none⟩ = some (.int .i64 kd) ∧ V.cell? ⟨g7, 2, none⟩ = some (.int .i64 tick) ∧ V.cell? ⟨g7, 3, none⟩ = some (.int .i64 te) ∧ V.cell? ⟨g7, 4, none⟩ = some (.int .i64 ce) ∧ V.cell? ⟨g7, 5, none⟩ = some (.int .i64 ot) ∧ V.cell? ⟨g7, 6, none⟩ = some (.int .i64 ep) ∧ V.cell? ⟨g7, 7, none⟩ = some (.int .i64 fr) ∧ V.cell? ⟨g7, 8, none⟩ = some (.int .i64 un) ∧ V.cell? ⟨g7, 9, none⟩ = some (.int .i64 nn)) := fun V hV => let p := b6.fr hV (fun h => h); let q := b7.fr hV (fun h => h); ⟨⟨p.cell 0, p.cell 1, p.cell 2, p.cell 3, p.cell 4, p.cell 5, p.cell 6, p.cell 7, p.cell 8, p.cell 9⟩, ⟨q.cell 0, q.cell 1, q.cell 2, q.cell 3, q.cell 4, q.cell 5, q.cell 6, q.cell 7, q.cell 8, q.cell 9⟩⟩
      clear b6 b7
      cases ok
      all_goals
        have HS := Lib.hid hS
        have HW7 := Lib.hid hW7
        have HG7 := Lib.hid hg7
        clear hS hW7 hg7
        have HWW := HW7
        go_wp2_with fail
        rw [← HWW.out]
        try rw [HG7.out]
        go_region_held3 (fun V => (V.cell? ⟨g6, 0, none⟩ = some (.int .i64 t) ∧ V.cell? ⟨g6, 1, none⟩ = some (.int .i64 kd) ∧ V.cell? ⟨g6, 2, none⟩ = some (.int .i64 tick) ∧ V.cell? ⟨g6, 3, none⟩ = some (.int .i64 te) ∧ V.cell? ⟨g6, 4, none⟩ = some (.int .i64 ce) ∧ V.cell? ⟨g6, 5, none⟩ = some (.int .i64 ot) ∧ V.cell? ⟨g6, 6, none⟩ = some (.int .i64 ep) ∧ V.cell? ⟨g6, 7, none⟩ = some (.int .i64 fr) ∧ V.cell? ⟨g6, 8, none⟩ = some (.int .i64 un) ∧ V.cell? ⟨g6, 9, none⟩ = some (.int .i64 nn)) ∧
        (V.cell? ⟨g7, 0, none⟩ = some (.int .i64 t) ∧ V.cell? ⟨g7, 1, none⟩ = some (.int .i64 kd) ∧ V.cell? ⟨g7, 2, none⟩ = some (.int .i64 tick) ∧ V.cell? ⟨g7, 3, none⟩ = some (.int .i64 te) ∧ V.cell? ⟨g7, 4, none⟩ = some (.int .i64 ce) ∧ V.cell? ⟨g7, 5, none⟩ = some (.int .i64 ot) ∧ V.cell? ⟨g7, 6, none⟩ = some (.int .i64 ep) ∧ V.cell? ⟨g7, 7, none⟩ = some (.int .i64 fr) ∧ V.cell? ⟨g7, 8, none⟩ = some (.int .i64 un) ∧ V.cell? ⟨g7, 9, none⟩ = some (.int .i64 nn))) (exact HS.out _ (by repeat (first | assumption | exact Fr.refl _ _ | refine Fr.alloc ?_ _ | refine Fr.drew ?_ | refine Fr.drewN ?_ _))) (first
          | (go_at_call 23; refine (HTA.out _ (F7.out.transNo (by repeat (first | assumption | exact Fr.refl _ _ | refine Fr.alloc ?_ _ | refine Fr.drew ?_ | refine Fr.drewN ?_ _)))).mono ?_; rintro e w8 ⟨rfl, f8⟩; have Q8 : Fr No W7 w8 := Fr.transNo (by repeat (first | assumption | exact Fr.refl _ _ | refine Fr.alloc ?_ _ | refine Fr.drew ?_ | refine Fr.drewN ?_ _)) f8; clear f8))
        have F8 := Lib.hid (F7.out.transNo Q8)
        clear Q8
        go_wp2_with fail
        go_roundw
        case rel => exact ⟨m + 1, by omega, by go_num, F8.out⟩
        case measure => simp [intOf]; omega
    · have b1 : decide ((m : Int) - 1 ≤ (n : Int)) = false := by simp; omega
      go_wp2_with fail
      go_ret
      exact ⟨rfl, F5.out⟩
end Go.Proofs.Ytoiiblopnchljaa
